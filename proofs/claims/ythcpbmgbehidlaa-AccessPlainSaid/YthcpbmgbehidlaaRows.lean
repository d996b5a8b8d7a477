/-
  No cell of these rows narrows 'for every input' (looked for: loops, veiled, ifaces, maps, wideKeys, modest, calm, conditions, laid).
  DERIVED. THE GIVEN ROWS OF THIS SEAT. 3 by the template 'for every input the law returns true; each argument reads behind the call as it read before'; 0 by the template 'total and deterministic' (their statements: YthcpbmgbehidlaaTotals.lean).
  GIVEN WITH THE SEED: the statements are not yours to turn. If you find one false, say at which input.
  Laid BY PROGRAM, IN A SANDBOX (cutbox-rows.mjs): the forced cells as the released guide's own fill.sh prints them over the translation 4b879d0ff0ba9a62… (all of the seat's roots in one cut). By AI agents, Wed Nov 11 2026. No macro, syntax, notation, axiom, sorry.
-/
import Derived.Test.YthcpbmgbehidlaaChecked
import GoSem.Claim
import GoSem.ClaimJoined
import GoSem.ClaimMapViews
import Derived.JoinedTies
import Derived.KernelRfl
namespace Go.Proofs.Ythcpbmgbehidlaa
/- THE CELL 'sum', in the pinned program and in every row, IS THE sha256 OF THE DUMP (.gsa) THAT YthcpbmgbehidlaaProg.lean LOADS. Nothing in Lean hashes anything: it is a label: what it is worth is what the hold of that sum in a sandbox is worth. -/
noncomputable def Try.pinned : Pinned := { name := "ythcpbmgbehidlaa", sum := "4b879d0ff0ba9a62cafccd84dce8f281810a34e949f530645af0525fd0d9e57b", checked := Try.checked }
namespace Rows
def none {H : Type} : Left H := { results := [], args := [] }

/-- 'sallyportlaw25.TablesLay': WHATEVER THE INPUT: true; the input reads as it did. -/
def tablesLaySpec : ChangeSpec := { name := "tablesLay", fn := fun _ => fun
  | [d] => { results := [.lit (.bool true)], args := [d] }
  | _ => none }
def tablesLayRow : OpenClaim := { program := "ythcpbmgbehidlaa", sum := "4b879d0ff0ba9a62cafccd84dce8f281810a34e949f530645af0525fd0d9e57b", func := "sallyport/sallyportlaw25.TablesLay", spec := "tablesLay", unfollowed := true, recurses := true, apart := false }
def TablesLaySaid : Prop := tablesLayRow.holds Try.pinned (OpenSpec.ofChange tablesLaySpec)

/-- ITS FALSE NEIGHBOUR: 'it returns false'. Refute it at one input. -/
def tablesLayWrong : ChangeSpec := { name := "tablesLay", fn := fun _ => fun
  | [d] => { results := [.lit (.bool false)], args := [d] }
  | _ => none }
def TablesLayWrongFalsely : Prop := tablesLayRow.holds Try.pinned (OpenSpec.ofChange tablesLayWrong)

/-- 'sallyportlaw25.TablesLead': WHATEVER THE INPUT: true; the input reads as it did. -/
def tablesLeadSpec : ChangeSpec := { name := "tablesLead", fn := fun _ => fun
  | [d1, d2, d3] => { results := [.lit (.bool true)], args := [d1, d2, d3] }
  | _ => none }
def tablesLeadRow : OpenClaim := { program := "ythcpbmgbehidlaa", sum := "4b879d0ff0ba9a62cafccd84dce8f281810a34e949f530645af0525fd0d9e57b", func := "sallyport/sallyportlaw25.TablesLead", spec := "tablesLead", unfollowed := true, recurses := true, apart := false }
def TablesLeadSaid : Prop := tablesLeadRow.holds Try.pinned (OpenSpec.ofChange tablesLeadSpec)

/-- ITS FALSE NEIGHBOUR: 'it returns false'. Refute it at one input. -/
def tablesLeadWrong : ChangeSpec := { name := "tablesLead", fn := fun _ => fun
  | [d1, d2, d3] => { results := [.lit (.bool false)], args := [d1, d2, d3] }
  | _ => none }
def TablesLeadWrongFalsely : Prop := tablesLeadRow.holds Try.pinned (OpenSpec.ofChange tablesLeadWrong)

/-- 'sallyportlaw17.AccessPlain': WHATEVER THE INPUT: true; the input reads as it did. -/
def accessPlainSpec : ChangeSpec := { name := "accessPlain", fn := fun _ => fun
  | [d1, d2, d3] => { results := [.lit (.bool true)], args := [d1, d2, d3] }
  | _ => none }
def accessPlainRow : OpenClaim := { program := "ythcpbmgbehidlaa", sum := "4b879d0ff0ba9a62cafccd84dce8f281810a34e949f530645af0525fd0d9e57b", func := "sallyport/sallyportlaw17.AccessPlain", spec := "accessPlain", inPlace := ["sync/atomic.LoadUint64"], unfollowed := true, recurses := true, apart := false }
def AccessPlainSaid : Prop := accessPlainRow.holds Try.pinned (OpenSpec.ofChange accessPlainSpec)

/-- ITS FALSE NEIGHBOUR: 'it returns false'. Refute it at one input. -/
def accessPlainWrong : ChangeSpec := { name := "accessPlain", fn := fun _ => fun
  | [d1, d2, d3] => { results := [.lit (.bool false)], args := [d1, d2, d3] }
  | _ => none }
def AccessPlainWrongFalsely : Prop := accessPlainRow.holds Try.pinned (OpenSpec.ofChange accessPlainWrong)

/- THE SECOND FORM. 'bulk': how many values and letters a reading holds, each counted each time it is reached (what is shared counts as often as it is met; a slice's spare places count too). A statement '..UptoSaid' is the law's where the arguments, and the package variables that the reading takes, are together of bulk at most 1048576: NARROWER than '..Said'. Prove '..Said' where nothing that the law and all that it calls make is longer than what came in: it says more and counts as full. Else prove '..UptoSaid'. A law counts once. -/
mutual
def uptoBulk {H : Type} : DataW H → Nat
  | .lit (.string bytes) => bytes.length + 1
  | .lit _ => 1
  | .nil => 1
  | .ptr d => uptoBulk d + 1
  | .slice elems spare => uptoBulkAll elems + uptoBulkAll spare + 1
  | .agg parts => uptoBulkAll parts + 1
  | .iface _ d => uptoBulk d + 1
  | .map entries => uptoBulkEntries entries + 1
  | .held _ => 1
def uptoBulkAll {H : Type} : List (DataW H) → Nat
  | [] => 0
  | d :: r => uptoBulk d + uptoBulkAll r
def uptoBulkEntries {H : Type} : List (Lit × DataW H) → Nat
  | [] => 0
  | x :: r => uptoBulkEntry x + uptoBulkEntries r
def uptoBulkEntry {H : Type} : Lit × DataW H → Nat
  | (.string bytes, d) => bytes.length + uptoBulk d + 1
  | (_, d) => uptoBulk d + 1
 end
def uptoSmall : (H : Type) → List (DataW H) → Bool := fun _ ds => decide (uptoBulkAll ds ≤ 1048576)
def OpenSpec.upto (s : _root_.Go.ChangeSpec) : _root_.Go.OpenSpec := { _root_.Go.OpenSpec.ofChange s with cond := some uptoSmall }

/-- 'sallyportlaw25.TablesLay', WHERE WHAT IT READS IS OF BULK AT MOST 1048576: true; the input reads as it did. -/
def tablesLayUptoRow : OpenClaim := { program := "ythcpbmgbehidlaa", sum := "4b879d0ff0ba9a62cafccd84dce8f281810a34e949f530645af0525fd0d9e57b", func := "sallyport/sallyportlaw25.TablesLay", spec := "tablesLay", unfollowed := true, recurses := true, apart := false, narrowed := true }
def TablesLayUptoSaid : Prop := tablesLayUptoRow.holds Try.pinned (OpenSpec.upto tablesLaySpec)

/-- 'sallyportlaw25.TablesLead', WHERE WHAT IT READS IS OF BULK AT MOST 1048576: true; the input reads as it did. -/
def tablesLeadUptoRow : OpenClaim := { program := "ythcpbmgbehidlaa", sum := "4b879d0ff0ba9a62cafccd84dce8f281810a34e949f530645af0525fd0d9e57b", func := "sallyport/sallyportlaw25.TablesLead", spec := "tablesLead", unfollowed := true, recurses := true, apart := false, narrowed := true }
def TablesLeadUptoSaid : Prop := tablesLeadUptoRow.holds Try.pinned (OpenSpec.upto tablesLeadSpec)

/-- 'sallyportlaw17.AccessPlain', WHERE WHAT IT READS IS OF BULK AT MOST 1048576: true; the input reads as it did. -/
def accessPlainUptoRow : OpenClaim := { program := "ythcpbmgbehidlaa", sum := "4b879d0ff0ba9a62cafccd84dce8f281810a34e949f530645af0525fd0d9e57b", func := "sallyport/sallyportlaw17.AccessPlain", spec := "accessPlain", inPlace := ["sync/atomic.LoadUint64"], unfollowed := true, recurses := true, apart := false, narrowed := true }
def AccessPlainUptoSaid : Prop := accessPlainUptoRow.holds Try.pinned (OpenSpec.upto accessPlainSpec)

end Rows
end Go.Proofs.Ythcpbmgbehidlaa
