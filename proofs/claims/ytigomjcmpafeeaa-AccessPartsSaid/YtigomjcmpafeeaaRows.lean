/-
  No cell of these rows narrows 'for every input' (looked for: loops, veiled, ifaces, maps, wideKeys, modest, calm, conditions, laid).
  DERIVED. THE GIVEN ROWS OF THIS SEAT. 10 by the template 'for every input the law returns true; each argument reads behind the call as it read before'; 0 by the template 'total and deterministic' (their statements: YtigomjcmpafeeaaTotals.lean).
  GIVEN WITH THE SEED: the statements are not yours to turn. If you find one false, say at which input.
  Laid BY PROGRAM, IN A SANDBOX (cutbox-rows.mjs): the forced cells as the released guide's own fill.sh prints them over the translation 2d789c502f0b0b25… (all of the seat's roots in one cut). By AI agents, Wed Nov 11 2026. No macro, syntax, notation, axiom, sorry.
-/
import Derived.Test.YtigomjcmpafeeaaChecked
import GoSem.Claim
import GoSem.ClaimJoined
import GoSem.ClaimMapViews
import Derived.JoinedTies
import Derived.KernelRfl
namespace Go.Proofs.Ytigomjcmpafeeaa
/- THE CELL 'sum', in the pinned program and in every row, IS THE sha256 OF THE DUMP (.gsa) THAT YtigomjcmpafeeaaProg.lean LOADS. Nothing in Lean hashes anything: it is a label: what it is worth is what the hold of that sum in a sandbox is worth. -/
noncomputable def Try.pinned : Pinned := { name := "ytigomjcmpafeeaa", sum := "2d789c502f0b0b2573ebce4a4678d12fa8a57c11defe6fcca72be34779a301b6", checked := Try.checked }
namespace Rows
def none {H : Type} : Left H := { results := [], args := [] }

/-- 'sallyportlaw25.TablesLay': WHATEVER THE INPUT: true; the input reads as it did. -/
def tablesLaySpec : ChangeSpec := { name := "tablesLay", fn := fun _ => fun
  | [d] => { results := [.lit (.bool true)], args := [d] }
  | _ => none }
def tablesLayRow : OpenClaim := { program := "ytigomjcmpafeeaa", sum := "2d789c502f0b0b2573ebce4a4678d12fa8a57c11defe6fcca72be34779a301b6", func := "sallyport/sallyportlaw25.TablesLay", spec := "tablesLay", unfollowed := true, recurses := true, apart := false }
def TablesLaySaid : Prop := tablesLayRow.holds Try.pinned (OpenSpec.ofChange tablesLaySpec)

/-- ITS FALSE NEIGHBOUR: 'it returns false'. Refute it at one input. -/
def tablesLayWrong : ChangeSpec := { name := "tablesLay", fn := fun _ => fun
  | [d] => { results := [.lit (.bool false)], args := [d] }
  | _ => none }
def TablesLayWrongFalsely : Prop := tablesLayRow.holds Try.pinned (OpenSpec.ofChange tablesLayWrong)

/-- 'sallyportlaw12.TwoOff': WHATEVER THE INPUT: true; the input reads as it did. -/
def twoOffSpec : ChangeSpec := { name := "twoOff", fn := fun _ => fun
  | [d1, d2, d3] => { results := [.lit (.bool true)], args := [d1, d2, d3] }
  | _ => none }
def twoOffRow : OpenClaim := { program := "ytigomjcmpafeeaa", sum := "2d789c502f0b0b2573ebce4a4678d12fa8a57c11defe6fcca72be34779a301b6", func := "sallyport/sallyportlaw12.TwoOff", spec := "twoOff", unfollowed := true, recurses := true, apart := false }
def TwoOffSaid : Prop := twoOffRow.holds Try.pinned (OpenSpec.ofChange twoOffSpec)

/-- ITS FALSE NEIGHBOUR: 'it returns false'. Refute it at one input. -/
def twoOffWrong : ChangeSpec := { name := "twoOff", fn := fun _ => fun
  | [d1, d2, d3] => { results := [.lit (.bool false)], args := [d1, d2, d3] }
  | _ => none }
def TwoOffWrongFalsely : Prop := twoOffRow.holds Try.pinned (OpenSpec.ofChange twoOffWrong)

/-- 'sallyportlaw12.TwoTells': WHATEVER THE INPUT: true; the input reads as it did. -/
def twoTellsSpec : ChangeSpec := { name := "twoTells", fn := fun _ => fun
  | [d1, d2, d3, d4, d5, d6] => { results := [.lit (.bool true)], args := [d1, d2, d3, d4, d5, d6] }
  | _ => none }
def twoTellsRow : OpenClaim := { program := "ytigomjcmpafeeaa", sum := "2d789c502f0b0b2573ebce4a4678d12fa8a57c11defe6fcca72be34779a301b6", func := "sallyport/sallyportlaw12.TwoTells", spec := "twoTells", unfollowed := true, recurses := true, apart := false }
def TwoTellsSaid : Prop := twoTellsRow.holds Try.pinned (OpenSpec.ofChange twoTellsSpec)

/-- ITS FALSE NEIGHBOUR: 'it returns false'. Refute it at one input. -/
def twoTellsWrong : ChangeSpec := { name := "twoTells", fn := fun _ => fun
  | [d1, d2, d3, d4, d5, d6] => { results := [.lit (.bool false)], args := [d1, d2, d3, d4, d5, d6] }
  | _ => none }
def TwoTellsWrongFalsely : Prop := twoTellsRow.holds Try.pinned (OpenSpec.ofChange twoTellsWrong)

/-- 'sallyportlaw12.TwoKept': WHATEVER THE INPUT: true; the input reads as it did. -/
def twoKeptSpec : ChangeSpec := { name := "twoKept", fn := fun _ => fun
  | [d1, d2, d3, d4, d5, d6, d7, d8] => { results := [.lit (.bool true)], args := [d1, d2, d3, d4, d5, d6, d7, d8] }
  | _ => none }
def twoKeptRow : OpenClaim := { program := "ytigomjcmpafeeaa", sum := "2d789c502f0b0b2573ebce4a4678d12fa8a57c11defe6fcca72be34779a301b6", func := "sallyport/sallyportlaw12.TwoKept", spec := "twoKept", unfollowed := true, recurses := true, apart := false }
def TwoKeptSaid : Prop := twoKeptRow.holds Try.pinned (OpenSpec.ofChange twoKeptSpec)

/-- ITS FALSE NEIGHBOUR: 'it returns false'. Refute it at one input. -/
def twoKeptWrong : ChangeSpec := { name := "twoKept", fn := fun _ => fun
  | [d1, d2, d3, d4, d5, d6, d7, d8] => { results := [.lit (.bool false)], args := [d1, d2, d3, d4, d5, d6, d7, d8] }
  | _ => none }
def TwoKeptWrongFalsely : Prop := twoKeptRow.holds Try.pinned (OpenSpec.ofChange twoKeptWrong)

/-- 'sallyportlaw12.TwoOwn': WHATEVER THE INPUT: true; the input reads as it did. -/
def twoOwnSpec : ChangeSpec := { name := "twoOwn", fn := fun _ => fun
  | [d1, d2, d3, d4] => { results := [.lit (.bool true)], args := [d1, d2, d3, d4] }
  | _ => none }
def twoOwnRow : OpenClaim := { program := "ytigomjcmpafeeaa", sum := "2d789c502f0b0b2573ebce4a4678d12fa8a57c11defe6fcca72be34779a301b6", func := "sallyport/sallyportlaw12.TwoOwn", spec := "twoOwn", unfollowed := true, recurses := true, apart := false }
def TwoOwnSaid : Prop := twoOwnRow.holds Try.pinned (OpenSpec.ofChange twoOwnSpec)

/-- ITS FALSE NEIGHBOUR: 'it returns false'. Refute it at one input. -/
def twoOwnWrong : ChangeSpec := { name := "twoOwn", fn := fun _ => fun
  | [d1, d2, d3, d4] => { results := [.lit (.bool false)], args := [d1, d2, d3, d4] }
  | _ => none }
def TwoOwnWrongFalsely : Prop := twoOwnRow.holds Try.pinned (OpenSpec.ofChange twoOwnWrong)

/-- 'sallyportlaw12.TwoBoth': WHATEVER THE INPUT: true; the input reads as it did. -/
def twoBothSpec : ChangeSpec := { name := "twoBoth", fn := fun _ => fun
  | [d1, d2, d3, d4, d5] => { results := [.lit (.bool true)], args := [d1, d2, d3, d4, d5] }
  | _ => none }
def twoBothRow : OpenClaim := { program := "ytigomjcmpafeeaa", sum := "2d789c502f0b0b2573ebce4a4678d12fa8a57c11defe6fcca72be34779a301b6", func := "sallyport/sallyportlaw12.TwoBoth", spec := "twoBoth", unfollowed := true, recurses := true, apart := false }
def TwoBothSaid : Prop := twoBothRow.holds Try.pinned (OpenSpec.ofChange twoBothSpec)

/-- ITS FALSE NEIGHBOUR: 'it returns false'. Refute it at one input. -/
def twoBothWrong : ChangeSpec := { name := "twoBoth", fn := fun _ => fun
  | [d1, d2, d3, d4, d5] => { results := [.lit (.bool false)], args := [d1, d2, d3, d4, d5] }
  | _ => none }
def TwoBothWrongFalsely : Prop := twoBothRow.holds Try.pinned (OpenSpec.ofChange twoBothWrong)

/-- 'sallyportlaw25.TablesLead': WHATEVER THE INPUT: true; the input reads as it did. -/
def tablesLeadSpec : ChangeSpec := { name := "tablesLead", fn := fun _ => fun
  | [d1, d2, d3] => { results := [.lit (.bool true)], args := [d1, d2, d3] }
  | _ => none }
def tablesLeadRow : OpenClaim := { program := "ytigomjcmpafeeaa", sum := "2d789c502f0b0b2573ebce4a4678d12fa8a57c11defe6fcca72be34779a301b6", func := "sallyport/sallyportlaw25.TablesLead", spec := "tablesLead", unfollowed := true, recurses := true, apart := false }
def TablesLeadSaid : Prop := tablesLeadRow.holds Try.pinned (OpenSpec.ofChange tablesLeadSpec)

/-- ITS FALSE NEIGHBOUR: 'it returns false'. Refute it at one input. -/
def tablesLeadWrong : ChangeSpec := { name := "tablesLead", fn := fun _ => fun
  | [d1, d2, d3] => { results := [.lit (.bool false)], args := [d1, d2, d3] }
  | _ => none }
def TablesLeadWrongFalsely : Prop := tablesLeadRow.holds Try.pinned (OpenSpec.ofChange tablesLeadWrong)

/-- 'sallyportlaw17.AccessPlain': WHATEVER THE INPUT: true; the input reads as it did. -/
def accessPlainSpec : ChangeSpec := { name := "accessPlain", fn := fun _ => fun
  | [d1, d2, d3] => { results := [.lit (.bool true)], args := [d1, d2, d3] }
  | _ => none }
def accessPlainRow : OpenClaim := { program := "ytigomjcmpafeeaa", sum := "2d789c502f0b0b2573ebce4a4678d12fa8a57c11defe6fcca72be34779a301b6", func := "sallyport/sallyportlaw17.AccessPlain", spec := "accessPlain", inPlace := ["sync/atomic.LoadUint64"], unfollowed := true, recurses := true, apart := false }
def AccessPlainSaid : Prop := accessPlainRow.holds Try.pinned (OpenSpec.ofChange accessPlainSpec)

/-- ITS FALSE NEIGHBOUR: 'it returns false'. Refute it at one input. -/
def accessPlainWrong : ChangeSpec := { name := "accessPlain", fn := fun _ => fun
  | [d1, d2, d3] => { results := [.lit (.bool false)], args := [d1, d2, d3] }
  | _ => none }
def AccessPlainWrongFalsely : Prop := accessPlainRow.holds Try.pinned (OpenSpec.ofChange accessPlainWrong)

/-- 'sallyportlaw17.AccessParts': WHATEVER THE INPUT: true; the input reads as it did. -/
def accessPartsSpec : ChangeSpec := { name := "accessParts", fn := fun _ => fun
  | [d1, d2, d3] => { results := [.lit (.bool true)], args := [d1, d2, d3] }
  | _ => none }
def accessPartsRow : OpenClaim := { program := "ytigomjcmpafeeaa", sum := "2d789c502f0b0b2573ebce4a4678d12fa8a57c11defe6fcca72be34779a301b6", func := "sallyport/sallyportlaw17.AccessParts", spec := "accessParts", inPlace := ["sync/atomic.LoadUint64"], unfollowed := true, recurses := true, apart := false }
def AccessPartsSaid : Prop := accessPartsRow.holds Try.pinned (OpenSpec.ofChange accessPartsSpec)

/-- ITS FALSE NEIGHBOUR: 'it returns false'. Refute it at one input. -/
def accessPartsWrong : ChangeSpec := { name := "accessParts", fn := fun _ => fun
  | [d1, d2, d3] => { results := [.lit (.bool false)], args := [d1, d2, d3] }
  | _ => none }
def AccessPartsWrongFalsely : Prop := accessPartsRow.holds Try.pinned (OpenSpec.ofChange accessPartsWrong)

/-- 'sallyportlaw17.AccessMis': WHATEVER THE INPUT: true; the input reads as it did. -/
def accessMisSpec : ChangeSpec := { name := "accessMis", fn := fun _ => fun
  | [d1, d2, d3, d4, d5] => { results := [.lit (.bool true)], args := [d1, d2, d3, d4, d5] }
  | _ => none }
def accessMisRow : OpenClaim := { program := "ytigomjcmpafeeaa", sum := "2d789c502f0b0b2573ebce4a4678d12fa8a57c11defe6fcca72be34779a301b6", func := "sallyport/sallyportlaw17.AccessMis", spec := "accessMis", inPlace := ["sync/atomic.LoadUint64"], unfollowed := true, recurses := true, apart := false }
def AccessMisSaid : Prop := accessMisRow.holds Try.pinned (OpenSpec.ofChange accessMisSpec)

/-- ITS FALSE NEIGHBOUR: 'it returns false'. Refute it at one input. -/
def accessMisWrong : ChangeSpec := { name := "accessMis", fn := fun _ => fun
  | [d1, d2, d3, d4, d5] => { results := [.lit (.bool false)], args := [d1, d2, d3, d4, d5] }
  | _ => none }
def AccessMisWrongFalsely : Prop := accessMisRow.holds Try.pinned (OpenSpec.ofChange accessMisWrong)

/- THE SECOND FORM. 'bulk': how many values and letters a reading holds, each counted each time it is reached (what is shared counts as often as it is met; a slice's spare places count too). A statement '..UptoSaid' is the law's where the arguments, and the package variables that the reading takes, are together of bulk at most 1048576: NARROWER than '..Said'. Prove '..Said' where nothing that the law and all that it calls make is longer than what came in: it says more and counts as full. Else prove '..UptoSaid'. A law counts once. -/
mutual
def uptoBulk {H : Type} : DataW H → Nat
  | .lit (.string bytes) => bytes.length + 1
  | .lit _ => 1
  | .nil => 1
  | .ptr d => uptoBulk d + 1
  | .slice elems spare => uptoBulkAll elems + uptoBulkAll spare + 1
  | .agg parts => uptoBulkAll parts + 1
  | .iface _ d => uptoBulk d + 1
  | .map entries => uptoBulkEntries entries + 1
  | .held _ => 1
def uptoBulkAll {H : Type} : List (DataW H) → Nat
  | [] => 0
  | d :: r => uptoBulk d + uptoBulkAll r
def uptoBulkEntries {H : Type} : List (Lit × DataW H) → Nat
  | [] => 0
  | x :: r => uptoBulkEntry x + uptoBulkEntries r
def uptoBulkEntry {H : Type} : Lit × DataW H → Nat
  | (.string bytes, d) => bytes.length + uptoBulk d + 1
  | (_, d) => uptoBulk d + 1
 end
def uptoSmall : (H : Type) → List (DataW H) → Bool := fun _ ds => decide (uptoBulkAll ds ≤ 1048576)
def OpenSpec.upto (s : _root_.Go.ChangeSpec) : _root_.Go.OpenSpec := { _root_.Go.OpenSpec.ofChange s with cond := some uptoSmall }

/-- 'sallyportlaw25.TablesLay', WHERE WHAT IT READS IS OF BULK AT MOST 1048576: true; the input reads as it did. -/
def tablesLayUptoRow : OpenClaim := { program := "ytigomjcmpafeeaa", sum := "2d789c502f0b0b2573ebce4a4678d12fa8a57c11defe6fcca72be34779a301b6", func := "sallyport/sallyportlaw25.TablesLay", spec := "tablesLay", unfollowed := true, recurses := true, apart := false, narrowed := true }
def TablesLayUptoSaid : Prop := tablesLayUptoRow.holds Try.pinned (OpenSpec.upto tablesLaySpec)

/-- 'sallyportlaw12.TwoOff', WHERE WHAT IT READS IS OF BULK AT MOST 1048576: true; the input reads as it did. -/
def twoOffUptoRow : OpenClaim := { program := "ytigomjcmpafeeaa", sum := "2d789c502f0b0b2573ebce4a4678d12fa8a57c11defe6fcca72be34779a301b6", func := "sallyport/sallyportlaw12.TwoOff", spec := "twoOff", unfollowed := true, recurses := true, apart := false, narrowed := true }
def TwoOffUptoSaid : Prop := twoOffUptoRow.holds Try.pinned (OpenSpec.upto twoOffSpec)

/-- 'sallyportlaw12.TwoTells', WHERE WHAT IT READS IS OF BULK AT MOST 1048576: true; the input reads as it did. -/
def twoTellsUptoRow : OpenClaim := { program := "ytigomjcmpafeeaa", sum := "2d789c502f0b0b2573ebce4a4678d12fa8a57c11defe6fcca72be34779a301b6", func := "sallyport/sallyportlaw12.TwoTells", spec := "twoTells", unfollowed := true, recurses := true, apart := false, narrowed := true }
def TwoTellsUptoSaid : Prop := twoTellsUptoRow.holds Try.pinned (OpenSpec.upto twoTellsSpec)

/-- 'sallyportlaw12.TwoKept', WHERE WHAT IT READS IS OF BULK AT MOST 1048576: true; the input reads as it did. -/
def twoKeptUptoRow : OpenClaim := { program := "ytigomjcmpafeeaa", sum := "2d789c502f0b0b2573ebce4a4678d12fa8a57c11defe6fcca72be34779a301b6", func := "sallyport/sallyportlaw12.TwoKept", spec := "twoKept", unfollowed := true, recurses := true, apart := false, narrowed := true }
def TwoKeptUptoSaid : Prop := twoKeptUptoRow.holds Try.pinned (OpenSpec.upto twoKeptSpec)

/-- 'sallyportlaw12.TwoOwn', WHERE WHAT IT READS IS OF BULK AT MOST 1048576: true; the input reads as it did. -/
def twoOwnUptoRow : OpenClaim := { program := "ytigomjcmpafeeaa", sum := "2d789c502f0b0b2573ebce4a4678d12fa8a57c11defe6fcca72be34779a301b6", func := "sallyport/sallyportlaw12.TwoOwn", spec := "twoOwn", unfollowed := true, recurses := true, apart := false, narrowed := true }
def TwoOwnUptoSaid : Prop := twoOwnUptoRow.holds Try.pinned (OpenSpec.upto twoOwnSpec)

/-- 'sallyportlaw12.TwoBoth', WHERE WHAT IT READS IS OF BULK AT MOST 1048576: true; the input reads as it did. -/
def twoBothUptoRow : OpenClaim := { program := "ytigomjcmpafeeaa", sum := "2d789c502f0b0b2573ebce4a4678d12fa8a57c11defe6fcca72be34779a301b6", func := "sallyport/sallyportlaw12.TwoBoth", spec := "twoBoth", unfollowed := true, recurses := true, apart := false, narrowed := true }
def TwoBothUptoSaid : Prop := twoBothUptoRow.holds Try.pinned (OpenSpec.upto twoBothSpec)

/-- 'sallyportlaw25.TablesLead', WHERE WHAT IT READS IS OF BULK AT MOST 1048576: true; the input reads as it did. -/
def tablesLeadUptoRow : OpenClaim := { program := "ytigomjcmpafeeaa", sum := "2d789c502f0b0b2573ebce4a4678d12fa8a57c11defe6fcca72be34779a301b6", func := "sallyport/sallyportlaw25.TablesLead", spec := "tablesLead", unfollowed := true, recurses := true, apart := false, narrowed := true }
def TablesLeadUptoSaid : Prop := tablesLeadUptoRow.holds Try.pinned (OpenSpec.upto tablesLeadSpec)

/-- 'sallyportlaw17.AccessPlain', WHERE WHAT IT READS IS OF BULK AT MOST 1048576: true; the input reads as it did. -/
def accessPlainUptoRow : OpenClaim := { program := "ytigomjcmpafeeaa", sum := "2d789c502f0b0b2573ebce4a4678d12fa8a57c11defe6fcca72be34779a301b6", func := "sallyport/sallyportlaw17.AccessPlain", spec := "accessPlain", inPlace := ["sync/atomic.LoadUint64"], unfollowed := true, recurses := true, apart := false, narrowed := true }
def AccessPlainUptoSaid : Prop := accessPlainUptoRow.holds Try.pinned (OpenSpec.upto accessPlainSpec)

/-- 'sallyportlaw17.AccessParts', WHERE WHAT IT READS IS OF BULK AT MOST 1048576: true; the input reads as it did. -/
def accessPartsUptoRow : OpenClaim := { program := "ytigomjcmpafeeaa", sum := "2d789c502f0b0b2573ebce4a4678d12fa8a57c11defe6fcca72be34779a301b6", func := "sallyport/sallyportlaw17.AccessParts", spec := "accessParts", inPlace := ["sync/atomic.LoadUint64"], unfollowed := true, recurses := true, apart := false, narrowed := true }
def AccessPartsUptoSaid : Prop := accessPartsUptoRow.holds Try.pinned (OpenSpec.upto accessPartsSpec)

/-- 'sallyportlaw17.AccessMis', WHERE WHAT IT READS IS OF BULK AT MOST 1048576: true; the input reads as it did. -/
def accessMisUptoRow : OpenClaim := { program := "ytigomjcmpafeeaa", sum := "2d789c502f0b0b2573ebce4a4678d12fa8a57c11defe6fcca72be34779a301b6", func := "sallyport/sallyportlaw17.AccessMis", spec := "accessMis", inPlace := ["sync/atomic.LoadUint64"], unfollowed := true, recurses := true, apart := false, narrowed := true }
def AccessMisUptoSaid : Prop := accessMisUptoRow.holds Try.pinned (OpenSpec.upto accessMisSpec)

end Rows
end Go.Proofs.Ytigomjcmpafeeaa
