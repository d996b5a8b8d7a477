/-
  No cell of these rows narrows 'for every input' (looked for: loops, veiled, ifaces, maps, wideKeys, modest, calm, conditions, laid).
  DERIVED. THE GIVEN ROWS OF THIS SEAT. 4 by the template 'for every input the law returns true; each argument reads behind the call as it read before'; 0 by the template 'total and deterministic' (their statements: YtgagmgcljkhboaaTotals.lean).
  GIVEN WITH THE SEED: the statements are not yours to turn. If you find one false, say at which input.
  Laid BY PROGRAM, IN A SANDBOX (cutbox-rows.mjs): the forced cells as the released guide's own fill.sh prints them over the translation b84f1ac7f6c31be9… (all of the seat's roots in one cut). By AI agents, Wed Nov 11 2026. No macro, syntax, notation, axiom, sorry.
-/
import Derived.Test.YtgagmgcljkhboaaChecked
import GoSem.Claim
import GoSem.ClaimJoined
import GoSem.ClaimMapViews
import Derived.JoinedTies
import Derived.KernelRfl
namespace Go.Proofs.Ytgagmgcljkhboaa
/- THE CELL 'sum', in the pinned program and in every row, IS THE sha256 OF THE DUMP (.gsa) THAT YtgagmgcljkhboaaProg.lean LOADS. Nothing in Lean hashes anything: it is a label: what it is worth is what the hold of that sum in a sandbox is worth. -/
noncomputable def Try.pinned : Pinned := { name := "ytgagmgcljkhboaa", sum := "b84f1ac7f6c31be98884e2aefed511f569712e124e55b2a1f4568fe13f9047d4", checked := Try.checked }
namespace Rows
def none {H : Type} : Left H := { results := [], args := [] }

/-- 'sallyportlaw24.ConfigTells': WHATEVER THE INPUT: true; the input reads as it did. -/
def configTellsSpec : ChangeSpec := { name := "configTells", fn := fun _ => fun
  | [d1, d2] => { results := [.lit (.bool true)], args := [d1, d2] }
  | _ => none }
def configTellsRow : OpenClaim := { program := "ytgagmgcljkhboaa", sum := "b84f1ac7f6c31be98884e2aefed511f569712e124e55b2a1f4568fe13f9047d4", func := "sallyport/sallyportlaw24.ConfigTells", spec := "configTells", unfollowed := true, recurses := true, apart := false }
def ConfigTellsSaid : Prop := configTellsRow.holds Try.pinned (OpenSpec.ofChange configTellsSpec)

/-- ITS FALSE NEIGHBOUR: 'it returns false'. Refute it at one input. -/
def configTellsWrong : ChangeSpec := { name := "configTells", fn := fun _ => fun
  | [d1, d2] => { results := [.lit (.bool false)], args := [d1, d2] }
  | _ => none }
def ConfigTellsWrongFalsely : Prop := configTellsRow.holds Try.pinned (OpenSpec.ofChange configTellsWrong)

/-- 'sallyportlaw24.ConfigApart': WHATEVER THE INPUT: true; the input reads as it did. -/
def configApartSpec : ChangeSpec := { name := "configApart", fn := fun _ => fun
  | [d] => { results := [.lit (.bool true)], args := [d] }
  | _ => none }
def configApartRow : OpenClaim := { program := "ytgagmgcljkhboaa", sum := "b84f1ac7f6c31be98884e2aefed511f569712e124e55b2a1f4568fe13f9047d4", func := "sallyport/sallyportlaw24.ConfigApart", spec := "configApart", unfollowed := true, recurses := true, apart := false }
def ConfigApartSaid : Prop := configApartRow.holds Try.pinned (OpenSpec.ofChange configApartSpec)

/-- ITS FALSE NEIGHBOUR: 'it returns false'. Refute it at one input. -/
def configApartWrong : ChangeSpec := { name := "configApart", fn := fun _ => fun
  | [d] => { results := [.lit (.bool false)], args := [d] }
  | _ => none }
def ConfigApartWrongFalsely : Prop := configApartRow.holds Try.pinned (OpenSpec.ofChange configApartWrong)

/-- 'sallyportlaw24.ConfigOne': WHATEVER THE INPUT: true; the input reads as it did. -/
def configOneSpec : ChangeSpec := { name := "configOne", fn := fun _ => fun
  | [d1, d2, d3] => { results := [.lit (.bool true)], args := [d1, d2, d3] }
  | _ => none }
def configOneRow : OpenClaim := { program := "ytgagmgcljkhboaa", sum := "b84f1ac7f6c31be98884e2aefed511f569712e124e55b2a1f4568fe13f9047d4", func := "sallyport/sallyportlaw24.ConfigOne", spec := "configOne", unfollowed := true, recurses := true, apart := false }
def ConfigOneSaid : Prop := configOneRow.holds Try.pinned (OpenSpec.ofChange configOneSpec)

/-- ITS FALSE NEIGHBOUR: 'it returns false'. Refute it at one input. -/
def configOneWrong : ChangeSpec := { name := "configOne", fn := fun _ => fun
  | [d1, d2, d3] => { results := [.lit (.bool false)], args := [d1, d2, d3] }
  | _ => none }
def ConfigOneWrongFalsely : Prop := configOneRow.holds Try.pinned (OpenSpec.ofChange configOneWrong)

/-- 'sallyportlaw24.ConfigCopies': WHATEVER THE INPUT: true; the input reads as it did. -/
def configCopiesSpec : ChangeSpec := { name := "configCopies", fn := fun _ => fun
  | [d1, d2] => { results := [.lit (.bool true)], args := [d1, d2] }
  | _ => none }
def configCopiesRow : OpenClaim := { program := "ytgagmgcljkhboaa", sum := "b84f1ac7f6c31be98884e2aefed511f569712e124e55b2a1f4568fe13f9047d4", func := "sallyport/sallyportlaw24.ConfigCopies", spec := "configCopies", unfollowed := true, recurses := true, apart := false }
def ConfigCopiesSaid : Prop := configCopiesRow.holds Try.pinned (OpenSpec.ofChange configCopiesSpec)

/-- ITS FALSE NEIGHBOUR: 'it returns false'. Refute it at one input. -/
def configCopiesWrong : ChangeSpec := { name := "configCopies", fn := fun _ => fun
  | [d1, d2] => { results := [.lit (.bool false)], args := [d1, d2] }
  | _ => none }
def ConfigCopiesWrongFalsely : Prop := configCopiesRow.holds Try.pinned (OpenSpec.ofChange configCopiesWrong)

/- THE SECOND FORM. 'bulk': how many values and letters a reading holds, each counted each time it is reached (what is shared counts as often as it is met; a slice's spare places count too). A statement '..UptoSaid' is the law's where the arguments, and the package variables that the reading takes, are together of bulk at most 1048576: NARROWER than '..Said'. Prove '..Said' where nothing that the law and all that it calls make is longer than what came in: it says more and counts as full. Else prove '..UptoSaid'. A law counts once. -/
mutual
def uptoBulk {H : Type} : DataW H → Nat
  | .lit (.string bytes) => bytes.length + 1
  | .lit _ => 1
  | .nil => 1
  | .ptr d => uptoBulk d + 1
  | .slice elems spare => uptoBulkAll elems + uptoBulkAll spare + 1
  | .agg parts => uptoBulkAll parts + 1
  | .iface _ d => uptoBulk d + 1
  | .map entries => uptoBulkEntries entries + 1
  | .held _ => 1
def uptoBulkAll {H : Type} : List (DataW H) → Nat
  | [] => 0
  | d :: r => uptoBulk d + uptoBulkAll r
def uptoBulkEntries {H : Type} : List (Lit × DataW H) → Nat
  | [] => 0
  | x :: r => uptoBulkEntry x + uptoBulkEntries r
def uptoBulkEntry {H : Type} : Lit × DataW H → Nat
  | (.string bytes, d) => bytes.length + uptoBulk d + 1
  | (_, d) => uptoBulk d + 1
 end
def uptoSmall : (H : Type) → List (DataW H) → Bool := fun _ ds => decide (uptoBulkAll ds ≤ 1048576)
def OpenSpec.upto (s : _root_.Go.ChangeSpec) : _root_.Go.OpenSpec := { _root_.Go.OpenSpec.ofChange s with cond := some uptoSmall }

/-- 'sallyportlaw24.ConfigTells', WHERE WHAT IT READS IS OF BULK AT MOST 1048576: true; the input reads as it did. -/
def configTellsUptoRow : OpenClaim := { program := "ytgagmgcljkhboaa", sum := "b84f1ac7f6c31be98884e2aefed511f569712e124e55b2a1f4568fe13f9047d4", func := "sallyport/sallyportlaw24.ConfigTells", spec := "configTells", unfollowed := true, recurses := true, apart := false, narrowed := true }
def ConfigTellsUptoSaid : Prop := configTellsUptoRow.holds Try.pinned (OpenSpec.upto configTellsSpec)

/-- 'sallyportlaw24.ConfigApart', WHERE WHAT IT READS IS OF BULK AT MOST 1048576: true; the input reads as it did. -/
def configApartUptoRow : OpenClaim := { program := "ytgagmgcljkhboaa", sum := "b84f1ac7f6c31be98884e2aefed511f569712e124e55b2a1f4568fe13f9047d4", func := "sallyport/sallyportlaw24.ConfigApart", spec := "configApart", unfollowed := true, recurses := true, apart := false, narrowed := true }
def ConfigApartUptoSaid : Prop := configApartUptoRow.holds Try.pinned (OpenSpec.upto configApartSpec)

/-- 'sallyportlaw24.ConfigOne', WHERE WHAT IT READS IS OF BULK AT MOST 1048576: true; the input reads as it did. -/
def configOneUptoRow : OpenClaim := { program := "ytgagmgcljkhboaa", sum := "b84f1ac7f6c31be98884e2aefed511f569712e124e55b2a1f4568fe13f9047d4", func := "sallyport/sallyportlaw24.ConfigOne", spec := "configOne", unfollowed := true, recurses := true, apart := false, narrowed := true }
def ConfigOneUptoSaid : Prop := configOneUptoRow.holds Try.pinned (OpenSpec.upto configOneSpec)

/-- 'sallyportlaw24.ConfigCopies', WHERE WHAT IT READS IS OF BULK AT MOST 1048576: true; the input reads as it did. -/
def configCopiesUptoRow : OpenClaim := { program := "ytgagmgcljkhboaa", sum := "b84f1ac7f6c31be98884e2aefed511f569712e124e55b2a1f4568fe13f9047d4", func := "sallyport/sallyportlaw24.ConfigCopies", spec := "configCopies", unfollowed := true, recurses := true, apart := false, narrowed := true }
def ConfigCopiesUptoSaid : Prop := configCopiesUptoRow.holds Try.pinned (OpenSpec.upto configCopiesSpec)

end Rows
end Go.Proofs.Ytgagmgcljkhboaa
