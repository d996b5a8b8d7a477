/-
  No cell of these rows narrows 'for every input' (looked for: loops, veiled, ifaces, maps, wideKeys, modest, calm, conditions, laid).
  DERIVED. THE GIVEN ROWS OF THIS SEAT. 7 by the template 'for every input the law returns true; each argument reads behind the call as it read before'; 0 by the template 'total and deterministic' (their statements: YtcoicmgdjkabaaaTotals.lean).
  GIVEN WITH THE SEED: the statements are not yours to turn. If you find one false, say at which input.
  Laid BY PROGRAM, IN A SANDBOX (cutbox-rows.mjs): the forced cells as the released guide's own fill.sh prints them over the translation d1c6ec5daae0cad2… (all of the seat's roots in one cut). By AI agents, Wed Nov 11 2026. No macro, syntax, notation, axiom, sorry.
-/
import Derived.Test.YtcoicmgdjkabaaaChecked
import GoSem.Claim
import GoSem.ClaimJoined
import GoSem.ClaimMapViews
import Derived.JoinedTies
import Derived.KernelRfl
namespace Go.Proofs.Ytcoicmgdjkabaaa
/- THE CELL 'sum', in the pinned program and in every row, IS THE sha256 OF THE DUMP (.gsa) THAT YtcoicmgdjkabaaaProg.lean LOADS. Nothing in Lean hashes anything: it is a label: what it is worth is what the hold of that sum in a sandbox is worth. -/
noncomputable def Try.pinned : Pinned := { name := "ytcoicmgdjkabaaa", sum := "d1c6ec5daae0cad2fe970a1633ff8192db057d931e201fc6057ebbcb97654935", checked := Try.checked }
namespace Rows
def none {H : Type} : Left H := { results := [], args := [] }

/-- 'sallyportlaw5.AluTells': WHATEVER THE INPUT: true; the input reads as it did. -/
def aluTellsSpec : ChangeSpec := { name := "aluTells", fn := fun _ => fun
  | [d1, d2, d3] => { results := [.lit (.bool true)], args := [d1, d2, d3] }
  | _ => none }
def aluTellsRow : OpenClaim := { program := "ytcoicmgdjkabaaa", sum := "d1c6ec5daae0cad2fe970a1633ff8192db057d931e201fc6057ebbcb97654935", func := "sallyport/sallyportlaw5.AluTells", spec := "aluTells", apart := false }
def AluTellsSaid : Prop := aluTellsRow.holds Try.pinned (OpenSpec.ofChange aluTellsSpec)

/-- ITS FALSE NEIGHBOUR: 'it returns false'. Refute it at one input. -/
def aluTellsWrong : ChangeSpec := { name := "aluTells", fn := fun _ => fun
  | [d1, d2, d3] => { results := [.lit (.bool false)], args := [d1, d2, d3] }
  | _ => none }
def AluTellsWrongFalsely : Prop := aluTellsRow.holds Try.pinned (OpenSpec.ofChange aluTellsWrong)

/-- 'sallyportlaw5.AluBack': WHATEVER THE INPUT: true; the input reads as it did. -/
def aluBackSpec : ChangeSpec := { name := "aluBack", fn := fun _ => fun
  | [d1, d2] => { results := [.lit (.bool true)], args := [d1, d2] }
  | _ => none }
def aluBackRow : OpenClaim := { program := "ytcoicmgdjkabaaa", sum := "d1c6ec5daae0cad2fe970a1633ff8192db057d931e201fc6057ebbcb97654935", func := "sallyport/sallyportlaw5.AluBack", spec := "aluBack", apart := false }
def AluBackSaid : Prop := aluBackRow.holds Try.pinned (OpenSpec.ofChange aluBackSpec)

/-- ITS FALSE NEIGHBOUR: 'it returns false'. Refute it at one input. -/
def aluBackWrong : ChangeSpec := { name := "aluBack", fn := fun _ => fun
  | [d1, d2] => { results := [.lit (.bool false)], args := [d1, d2] }
  | _ => none }
def AluBackWrongFalsely : Prop := aluBackRow.holds Try.pinned (OpenSpec.ofChange aluBackWrong)

/-- 'sallyportlaw5.AluOrder': WHATEVER THE INPUT: true; the input reads as it did. -/
def aluOrderSpec : ChangeSpec := { name := "aluOrder", fn := fun _ => fun
  | [d1, d2] => { results := [.lit (.bool true)], args := [d1, d2] }
  | _ => none }
def aluOrderRow : OpenClaim := { program := "ytcoicmgdjkabaaa", sum := "d1c6ec5daae0cad2fe970a1633ff8192db057d931e201fc6057ebbcb97654935", func := "sallyport/sallyportlaw5.AluOrder", spec := "aluOrder", apart := false }
def AluOrderSaid : Prop := aluOrderRow.holds Try.pinned (OpenSpec.ofChange aluOrderSpec)

/-- ITS FALSE NEIGHBOUR: 'it returns false'. Refute it at one input. -/
def aluOrderWrong : ChangeSpec := { name := "aluOrder", fn := fun _ => fun
  | [d1, d2] => { results := [.lit (.bool false)], args := [d1, d2] }
  | _ => none }
def AluOrderWrongFalsely : Prop := aluOrderRow.holds Try.pinned (OpenSpec.ofChange aluOrderWrong)

/-- 'sallyportlaw5.AluHalves': WHATEVER THE INPUT: true; the input reads as it did. -/
def aluHalvesSpec : ChangeSpec := { name := "aluHalves", fn := fun _ => fun
  | [d1, d2] => { results := [.lit (.bool true)], args := [d1, d2] }
  | _ => none }
def aluHalvesRow : OpenClaim := { program := "ytcoicmgdjkabaaa", sum := "d1c6ec5daae0cad2fe970a1633ff8192db057d931e201fc6057ebbcb97654935", func := "sallyport/sallyportlaw5.AluHalves", spec := "aluHalves", apart := false }
def AluHalvesSaid : Prop := aluHalvesRow.holds Try.pinned (OpenSpec.ofChange aluHalvesSpec)

/-- ITS FALSE NEIGHBOUR: 'it returns false'. Refute it at one input. -/
def aluHalvesWrong : ChangeSpec := { name := "aluHalves", fn := fun _ => fun
  | [d1, d2] => { results := [.lit (.bool false)], args := [d1, d2] }
  | _ => none }
def AluHalvesWrongFalsely : Prop := aluHalvesRow.holds Try.pinned (OpenSpec.ofChange aluHalvesWrong)

/-- 'sallyportlaw5.AluCsr': WHATEVER THE INPUT: true; the input reads as it did. -/
def aluCsrSpec : ChangeSpec := { name := "aluCsr", fn := fun _ => fun
  | [d1, d2] => { results := [.lit (.bool true)], args := [d1, d2] }
  | _ => none }
def aluCsrRow : OpenClaim := { program := "ytcoicmgdjkabaaa", sum := "d1c6ec5daae0cad2fe970a1633ff8192db057d931e201fc6057ebbcb97654935", func := "sallyport/sallyportlaw5.AluCsr", spec := "aluCsr", apart := false }
def AluCsrSaid : Prop := aluCsrRow.holds Try.pinned (OpenSpec.ofChange aluCsrSpec)

/-- ITS FALSE NEIGHBOUR: 'it returns false'. Refute it at one input. -/
def aluCsrWrong : ChangeSpec := { name := "aluCsr", fn := fun _ => fun
  | [d1, d2] => { results := [.lit (.bool false)], args := [d1, d2] }
  | _ => none }
def AluCsrWrongFalsely : Prop := aluCsrRow.holds Try.pinned (OpenSpec.ofChange aluCsrWrong)

/-- 'sallyportlaw5.AluSteps': WHATEVER THE INPUT: true; the input reads as it did. -/
def aluStepsSpec : ChangeSpec := { name := "aluSteps", fn := fun _ => fun
  | [d1, d2, d3] => { results := [.lit (.bool true)], args := [d1, d2, d3] }
  | _ => none }
def aluStepsRow : OpenClaim := { program := "ytcoicmgdjkabaaa", sum := "d1c6ec5daae0cad2fe970a1633ff8192db057d931e201fc6057ebbcb97654935", func := "sallyport/sallyportlaw5.AluSteps", spec := "aluSteps", apart := false }
def AluStepsSaid : Prop := aluStepsRow.holds Try.pinned (OpenSpec.ofChange aluStepsSpec)

/-- ITS FALSE NEIGHBOUR: 'it returns false'. Refute it at one input. -/
def aluStepsWrong : ChangeSpec := { name := "aluSteps", fn := fun _ => fun
  | [d1, d2, d3] => { results := [.lit (.bool false)], args := [d1, d2, d3] }
  | _ => none }
def AluStepsWrongFalsely : Prop := aluStepsRow.holds Try.pinned (OpenSpec.ofChange aluStepsWrong)

/-- 'sallyportlaw5.AluBits': WHATEVER THE INPUT: true; the input reads as it did. -/
def aluBitsSpec : ChangeSpec := { name := "aluBits", fn := fun _ => fun
  | [d1, d2, d3] => { results := [.lit (.bool true)], args := [d1, d2, d3] }
  | _ => none }
def aluBitsRow : OpenClaim := { program := "ytcoicmgdjkabaaa", sum := "d1c6ec5daae0cad2fe970a1633ff8192db057d931e201fc6057ebbcb97654935", func := "sallyport/sallyportlaw5.AluBits", spec := "aluBits", apart := false }
def AluBitsSaid : Prop := aluBitsRow.holds Try.pinned (OpenSpec.ofChange aluBitsSpec)

/-- ITS FALSE NEIGHBOUR: 'it returns false'. Refute it at one input. -/
def aluBitsWrong : ChangeSpec := { name := "aluBits", fn := fun _ => fun
  | [d1, d2, d3] => { results := [.lit (.bool false)], args := [d1, d2, d3] }
  | _ => none }
def AluBitsWrongFalsely : Prop := aluBitsRow.holds Try.pinned (OpenSpec.ofChange aluBitsWrong)

/- THE SECOND FORM. 'bulk': how many values and letters a reading holds, each counted each time it is reached (what is shared counts as often as it is met; a slice's spare places count too). A statement '..UptoSaid' is the law's where the arguments, and the package variables that the reading takes, are together of bulk at most 1048576: NARROWER than '..Said'. Prove '..Said' where nothing that the law and all that it calls make is longer than what came in: it says more and counts as full. Else prove '..UptoSaid'. A law counts once. -/
mutual
def uptoBulk {H : Type} : DataW H → Nat
  | .lit (.string bytes) => bytes.length + 1
  | .lit _ => 1
  | .nil => 1
  | .ptr d => uptoBulk d + 1
  | .slice elems spare => uptoBulkAll elems + uptoBulkAll spare + 1
  | .agg parts => uptoBulkAll parts + 1
  | .iface _ d => uptoBulk d + 1
  | .map entries => uptoBulkEntries entries + 1
  | .held _ => 1
def uptoBulkAll {H : Type} : List (DataW H) → Nat
  | [] => 0
  | d :: r => uptoBulk d + uptoBulkAll r
def uptoBulkEntries {H : Type} : List (Lit × DataW H) → Nat
  | [] => 0
  | x :: r => uptoBulkEntry x + uptoBulkEntries r
def uptoBulkEntry {H : Type} : Lit × DataW H → Nat
  | (.string bytes, d) => bytes.length + uptoBulk d + 1
  | (_, d) => uptoBulk d + 1
 end
def uptoSmall : (H : Type) → List (DataW H) → Bool := fun _ ds => decide (uptoBulkAll ds ≤ 1048576)
def OpenSpec.upto (s : _root_.Go.ChangeSpec) : _root_.Go.OpenSpec := { _root_.Go.OpenSpec.ofChange s with cond := some uptoSmall }

/-- 'sallyportlaw5.AluTells', WHERE WHAT IT READS IS OF BULK AT MOST 1048576: true; the input reads as it did. -/
def aluTellsUptoRow : OpenClaim := { program := "ytcoicmgdjkabaaa", sum := "d1c6ec5daae0cad2fe970a1633ff8192db057d931e201fc6057ebbcb97654935", func := "sallyport/sallyportlaw5.AluTells", spec := "aluTells", apart := false, narrowed := true }
def AluTellsUptoSaid : Prop := aluTellsUptoRow.holds Try.pinned (OpenSpec.upto aluTellsSpec)

/-- 'sallyportlaw5.AluBack', WHERE WHAT IT READS IS OF BULK AT MOST 1048576: true; the input reads as it did. -/
def aluBackUptoRow : OpenClaim := { program := "ytcoicmgdjkabaaa", sum := "d1c6ec5daae0cad2fe970a1633ff8192db057d931e201fc6057ebbcb97654935", func := "sallyport/sallyportlaw5.AluBack", spec := "aluBack", apart := false, narrowed := true }
def AluBackUptoSaid : Prop := aluBackUptoRow.holds Try.pinned (OpenSpec.upto aluBackSpec)

/-- 'sallyportlaw5.AluOrder', WHERE WHAT IT READS IS OF BULK AT MOST 1048576: true; the input reads as it did. -/
def aluOrderUptoRow : OpenClaim := { program := "ytcoicmgdjkabaaa", sum := "d1c6ec5daae0cad2fe970a1633ff8192db057d931e201fc6057ebbcb97654935", func := "sallyport/sallyportlaw5.AluOrder", spec := "aluOrder", apart := false, narrowed := true }
def AluOrderUptoSaid : Prop := aluOrderUptoRow.holds Try.pinned (OpenSpec.upto aluOrderSpec)

/-- 'sallyportlaw5.AluHalves', WHERE WHAT IT READS IS OF BULK AT MOST 1048576: true; the input reads as it did. -/
def aluHalvesUptoRow : OpenClaim := { program := "ytcoicmgdjkabaaa", sum := "d1c6ec5daae0cad2fe970a1633ff8192db057d931e201fc6057ebbcb97654935", func := "sallyport/sallyportlaw5.AluHalves", spec := "aluHalves", apart := false, narrowed := true }
def AluHalvesUptoSaid : Prop := aluHalvesUptoRow.holds Try.pinned (OpenSpec.upto aluHalvesSpec)

/-- 'sallyportlaw5.AluCsr', WHERE WHAT IT READS IS OF BULK AT MOST 1048576: true; the input reads as it did. -/
def aluCsrUptoRow : OpenClaim := { program := "ytcoicmgdjkabaaa", sum := "d1c6ec5daae0cad2fe970a1633ff8192db057d931e201fc6057ebbcb97654935", func := "sallyport/sallyportlaw5.AluCsr", spec := "aluCsr", apart := false, narrowed := true }
def AluCsrUptoSaid : Prop := aluCsrUptoRow.holds Try.pinned (OpenSpec.upto aluCsrSpec)

/-- 'sallyportlaw5.AluSteps', WHERE WHAT IT READS IS OF BULK AT MOST 1048576: true; the input reads as it did. -/
def aluStepsUptoRow : OpenClaim := { program := "ytcoicmgdjkabaaa", sum := "d1c6ec5daae0cad2fe970a1633ff8192db057d931e201fc6057ebbcb97654935", func := "sallyport/sallyportlaw5.AluSteps", spec := "aluSteps", apart := false, narrowed := true }
def AluStepsUptoSaid : Prop := aluStepsUptoRow.holds Try.pinned (OpenSpec.upto aluStepsSpec)

/-- 'sallyportlaw5.AluBits', WHERE WHAT IT READS IS OF BULK AT MOST 1048576: true; the input reads as it did. -/
def aluBitsUptoRow : OpenClaim := { program := "ytcoicmgdjkabaaa", sum := "d1c6ec5daae0cad2fe970a1633ff8192db057d931e201fc6057ebbcb97654935", func := "sallyport/sallyportlaw5.AluBits", spec := "aluBits", apart := false, narrowed := true }
def AluBitsUptoSaid : Prop := aluBitsUptoRow.holds Try.pinned (OpenSpec.upto aluBitsSpec)

end Rows
end Go.Proofs.Ytcoicmgdjkabaaa
