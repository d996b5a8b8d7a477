/-
  No cell of these rows narrows 'for every input' (looked for: loops, veiled, ifaces, maps, wideKeys, modest, calm, conditions, laid).
  DERIVED. THE GIVEN ROWS OF THIS SEAT. 6 by the template 'for every input the law returns true; each argument reads behind the call as it read before'; 0 by the template 'total and deterministic' (their statements: YtlijlabaopiicaaGreatTotals.lean).
  GIVEN WITH THE SEED: the statements are not yours to turn. If you find one false, say at which input.
  Laid BY PROGRAM, IN A SANDBOX (cutbox-rows.mjs): the forced cells as the released guide's own fill.sh prints them over the translation 87e56fb1eb5cd2bd… (all of the seat's roots in one cut). By AI agents, Wed Nov 11 2026. No macro, syntax, notation, axiom, sorry.
-/
import Derived.Test.YtlijlabaopiicaaGreatChecked
import GoSem.Claim
import GoSem.ClaimJoined
import GoSem.ClaimMapViews
import Derived.JoinedTies
import Derived.KernelRfl
namespace Go.Proofs.YtlijlabaopiicaaGreat
/- THE CELL 'sum', in the pinned program and in every row, IS THE sha256 OF THE DUMP (.gsa) THAT YtlijlabaopiicaaGreatProg.lean LOADS. Nothing in Lean hashes anything: it is a label: what it is worth is what the hold of that sum in a sandbox is worth. -/
noncomputable def Tryz.pinned : Pinned := { name := "ytlijlabaopiicaagreat", sum := "87e56fb1eb5cd2bdcdb6b1230860aaecaca8d352f6b2c64f086b40cdb2d99068", checked := Tryz.checked }
namespace Rows
def none {H : Type} : Left H := { results := [], args := [] }

/-- 'sallyportlaw18.ExecSums': WHATEVER THE INPUT: true; the input reads as it did. -/
def execSumsSpec : ChangeSpec := { name := "execSums", fn := fun _ => fun
  | [d1, d2, d3, d4, d5] => { results := [.lit (.bool true)], args := [d1, d2, d3, d4, d5] }
  | _ => none }
def execSumsRow : OpenClaim := { program := "ytlijlabaopiicaagreat", sum := "87e56fb1eb5cd2bdcdb6b1230860aaecaca8d352f6b2c64f086b40cdb2d99068", func := "sallyport/sallyportlaw18.ExecSums", spec := "execSums", inPlace := ["sync/atomic.LoadUint32", "(*internal/sync.Mutex).Lock", "internal/race.Disable", "sync/atomic.CompareAndSwapInt32", "internal/race.Enable", "internal/race.Acquire", "(*internal/sync.Mutex).lockSlow", "internal/sync.runtime_canSpin", "internal/sync.runtime_doSpin", "internal/sync.throw", "internal/sync.runtime_nanotime", "internal/sync.runtime_SemacquireMutex", "sync/atomic.AddInt32", "(*internal/sync.Mutex).Unlock", "internal/race.ReleaseMerge", "(*internal/sync.Mutex).unlockSlow", "internal/sync.fatal", "internal/sync.runtime_Semrelease", "sync/atomic.StoreUint32", "sync/atomic.LoadUint64"], unfollowed := true, recurses := true, apart := false }
def ExecSumsSaid : Prop := execSumsRow.holds Tryz.pinned (OpenSpec.ofChange execSumsSpec)

/-- ITS FALSE NEIGHBOUR: 'it returns false'. Refute it at one input. -/
def execSumsWrong : ChangeSpec := { name := "execSums", fn := fun _ => fun
  | [d1, d2, d3, d4, d5] => { results := [.lit (.bool false)], args := [d1, d2, d3, d4, d5] }
  | _ => none }
def ExecSumsWrongFalsely : Prop := execSumsRow.holds Tryz.pinned (OpenSpec.ofChange execSumsWrong)

/-- 'sallyportlaw18.ExecCalls': WHATEVER THE INPUT: true; the input reads as it did. -/
def execCallsSpec : ChangeSpec := { name := "execCalls", fn := fun _ => fun
  | [d1, d2, d3, d4] => { results := [.lit (.bool true)], args := [d1, d2, d3, d4] }
  | _ => none }
def execCallsRow : OpenClaim := { program := "ytlijlabaopiicaagreat", sum := "87e56fb1eb5cd2bdcdb6b1230860aaecaca8d352f6b2c64f086b40cdb2d99068", func := "sallyport/sallyportlaw18.ExecCalls", spec := "execCalls", inPlace := ["sync/atomic.LoadUint32", "(*internal/sync.Mutex).Lock", "internal/race.Disable", "sync/atomic.CompareAndSwapInt32", "internal/race.Enable", "internal/race.Acquire", "(*internal/sync.Mutex).lockSlow", "internal/sync.runtime_canSpin", "internal/sync.runtime_doSpin", "internal/sync.throw", "internal/sync.runtime_nanotime", "internal/sync.runtime_SemacquireMutex", "sync/atomic.AddInt32", "(*internal/sync.Mutex).Unlock", "internal/race.ReleaseMerge", "(*internal/sync.Mutex).unlockSlow", "internal/sync.fatal", "internal/sync.runtime_Semrelease", "sync/atomic.StoreUint32", "sync/atomic.LoadUint64"], unfollowed := true, recurses := true, apart := false }
def ExecCallsSaid : Prop := execCallsRow.holds Tryz.pinned (OpenSpec.ofChange execCallsSpec)

/-- ITS FALSE NEIGHBOUR: 'it returns false'. Refute it at one input. -/
def execCallsWrong : ChangeSpec := { name := "execCalls", fn := fun _ => fun
  | [d1, d2, d3, d4] => { results := [.lit (.bool false)], args := [d1, d2, d3, d4] }
  | _ => none }
def ExecCallsWrongFalsely : Prop := execCallsRow.holds Tryz.pinned (OpenSpec.ofChange execCallsWrong)

/-- 'sallyportlaw18.ExecBranches': WHATEVER THE INPUT: true; the input reads as it did. -/
def execBranchesSpec : ChangeSpec := { name := "execBranches", fn := fun _ => fun
  | [d1, d2, d3, d4] => { results := [.lit (.bool true)], args := [d1, d2, d3, d4] }
  | _ => none }
def execBranchesRow : OpenClaim := { program := "ytlijlabaopiicaagreat", sum := "87e56fb1eb5cd2bdcdb6b1230860aaecaca8d352f6b2c64f086b40cdb2d99068", func := "sallyport/sallyportlaw18.ExecBranches", spec := "execBranches", inPlace := ["sync/atomic.LoadUint32", "(*internal/sync.Mutex).Lock", "internal/race.Disable", "sync/atomic.CompareAndSwapInt32", "internal/race.Enable", "internal/race.Acquire", "(*internal/sync.Mutex).lockSlow", "internal/sync.runtime_canSpin", "internal/sync.runtime_doSpin", "internal/sync.throw", "internal/sync.runtime_nanotime", "internal/sync.runtime_SemacquireMutex", "sync/atomic.AddInt32", "(*internal/sync.Mutex).Unlock", "internal/race.ReleaseMerge", "(*internal/sync.Mutex).unlockSlow", "internal/sync.fatal", "internal/sync.runtime_Semrelease", "sync/atomic.StoreUint32", "sync/atomic.LoadUint64"], unfollowed := true, recurses := true, apart := false }
def ExecBranchesSaid : Prop := execBranchesRow.holds Tryz.pinned (OpenSpec.ofChange execBranchesSpec)

/-- ITS FALSE NEIGHBOUR: 'it returns false'. Refute it at one input. -/
def execBranchesWrong : ChangeSpec := { name := "execBranches", fn := fun _ => fun
  | [d1, d2, d3, d4] => { results := [.lit (.bool false)], args := [d1, d2, d3, d4] }
  | _ => none }
def ExecBranchesWrongFalsely : Prop := execBranchesRow.holds Tryz.pinned (OpenSpec.ofChange execBranchesWrong)

/-- 'sallyportlaw18.ExecWhole': WHATEVER THE INPUT: true; the input reads as it did. -/
def execWholeSpec : ChangeSpec := { name := "execWhole", fn := fun _ => fun
  | [d1, d2, d3] => { results := [.lit (.bool true)], args := [d1, d2, d3] }
  | _ => none }
def execWholeRow : OpenClaim := { program := "ytlijlabaopiicaagreat", sum := "87e56fb1eb5cd2bdcdb6b1230860aaecaca8d352f6b2c64f086b40cdb2d99068", func := "sallyport/sallyportlaw18.ExecWhole", spec := "execWhole", inPlace := ["sync/atomic.LoadUint32", "(*internal/sync.Mutex).Lock", "internal/race.Disable", "sync/atomic.CompareAndSwapInt32", "internal/race.Enable", "internal/race.Acquire", "(*internal/sync.Mutex).lockSlow", "internal/sync.runtime_canSpin", "internal/sync.runtime_doSpin", "internal/sync.throw", "internal/sync.runtime_nanotime", "internal/sync.runtime_SemacquireMutex", "sync/atomic.AddInt32", "(*internal/sync.Mutex).Unlock", "internal/race.ReleaseMerge", "(*internal/sync.Mutex).unlockSlow", "internal/sync.fatal", "internal/sync.runtime_Semrelease", "sync/atomic.StoreUint32", "sync/atomic.LoadUint64"], unfollowed := true, recurses := true, apart := false }
def ExecWholeSaid : Prop := execWholeRow.holds Tryz.pinned (OpenSpec.ofChange execWholeSpec)

/-- ITS FALSE NEIGHBOUR: 'it returns false'. Refute it at one input. -/
def execWholeWrong : ChangeSpec := { name := "execWhole", fn := fun _ => fun
  | [d1, d2, d3] => { results := [.lit (.bool false)], args := [d1, d2, d3] }
  | _ => none }
def ExecWholeWrongFalsely : Prop := execWholeRow.holds Tryz.pinned (OpenSpec.ofChange execWholeWrong)

/-- 'sallyportlaw18.ExecTells': WHATEVER THE INPUT: true; the input reads as it did. -/
def execTellsSpec : ChangeSpec := { name := "execTells", fn := fun _ => fun
  | [d1, d2, d3] => { results := [.lit (.bool true)], args := [d1, d2, d3] }
  | _ => none }
def execTellsRow : OpenClaim := { program := "ytlijlabaopiicaagreat", sum := "87e56fb1eb5cd2bdcdb6b1230860aaecaca8d352f6b2c64f086b40cdb2d99068", func := "sallyport/sallyportlaw18.ExecTells", spec := "execTells", inPlace := ["sync/atomic.LoadUint32", "(*internal/sync.Mutex).Lock", "internal/race.Disable", "sync/atomic.CompareAndSwapInt32", "internal/race.Enable", "internal/race.Acquire", "(*internal/sync.Mutex).lockSlow", "internal/sync.runtime_canSpin", "internal/sync.runtime_doSpin", "internal/sync.throw", "internal/sync.runtime_nanotime", "internal/sync.runtime_SemacquireMutex", "sync/atomic.AddInt32", "(*internal/sync.Mutex).Unlock", "internal/race.ReleaseMerge", "(*internal/sync.Mutex).unlockSlow", "internal/sync.fatal", "internal/sync.runtime_Semrelease", "sync/atomic.StoreUint32", "sync/atomic.LoadUint64"], unfollowed := true, recurses := true, apart := false }
def ExecTellsSaid : Prop := execTellsRow.holds Tryz.pinned (OpenSpec.ofChange execTellsSpec)

/-- ITS FALSE NEIGHBOUR: 'it returns false'. Refute it at one input. -/
def execTellsWrong : ChangeSpec := { name := "execTells", fn := fun _ => fun
  | [d1, d2, d3] => { results := [.lit (.bool false)], args := [d1, d2, d3] }
  | _ => none }
def ExecTellsWrongFalsely : Prop := execTellsRow.holds Tryz.pinned (OpenSpec.ofChange execTellsWrong)

/-- 'sallyportlaw18.ExecInsns': WHATEVER THE INPUT: true; the input reads as it did. -/
def execInsnsSpec : ChangeSpec := { name := "execInsns", fn := fun _ => fun
  | [d1, d2, d3, d4] => { results := [.lit (.bool true)], args := [d1, d2, d3, d4] }
  | _ => none }
def execInsnsRow : OpenClaim := { program := "ytlijlabaopiicaagreat", sum := "87e56fb1eb5cd2bdcdb6b1230860aaecaca8d352f6b2c64f086b40cdb2d99068", func := "sallyport/sallyportlaw18.ExecInsns", spec := "execInsns", inPlace := ["sync/atomic.LoadUint32", "(*internal/sync.Mutex).Lock", "internal/race.Disable", "sync/atomic.CompareAndSwapInt32", "internal/race.Enable", "internal/race.Acquire", "(*internal/sync.Mutex).lockSlow", "internal/sync.runtime_canSpin", "internal/sync.runtime_doSpin", "internal/sync.throw", "internal/sync.runtime_nanotime", "internal/sync.runtime_SemacquireMutex", "sync/atomic.AddInt32", "(*internal/sync.Mutex).Unlock", "internal/race.ReleaseMerge", "(*internal/sync.Mutex).unlockSlow", "internal/sync.fatal", "internal/sync.runtime_Semrelease", "sync/atomic.StoreUint32", "sync/atomic.LoadUint64"], unfollowed := true, recurses := true, apart := false }
def ExecInsnsSaid : Prop := execInsnsRow.holds Tryz.pinned (OpenSpec.ofChange execInsnsSpec)

/-- ITS FALSE NEIGHBOUR: 'it returns false'. Refute it at one input. -/
def execInsnsWrong : ChangeSpec := { name := "execInsns", fn := fun _ => fun
  | [d1, d2, d3, d4] => { results := [.lit (.bool false)], args := [d1, d2, d3, d4] }
  | _ => none }
def ExecInsnsWrongFalsely : Prop := execInsnsRow.holds Tryz.pinned (OpenSpec.ofChange execInsnsWrong)

/- THE SECOND FORM. 'bulk': how many values and letters a reading holds, each counted each time it is reached (what is shared counts as often as it is met; a slice's spare places count too). A statement '..UptoSaid' is the law's where the arguments, and the package variables that the reading takes, are together of bulk at most 1048576: NARROWER than '..Said'. Prove '..Said' where nothing that the law and all that it calls make is longer than what came in: it says more and counts as full. Else prove '..UptoSaid'. A law counts once. -/
mutual
def uptoBulk {H : Type} : DataW H → Nat
  | .lit (.string bytes) => bytes.length + 1
  | .lit _ => 1
  | .nil => 1
  | .ptr d => uptoBulk d + 1
  | .slice elems spare => uptoBulkAll elems + uptoBulkAll spare + 1
  | .agg parts => uptoBulkAll parts + 1
  | .iface _ d => uptoBulk d + 1
  | .map entries => uptoBulkEntries entries + 1
  | .held _ => 1
def uptoBulkAll {H : Type} : List (DataW H) → Nat
  | [] => 0
  | d :: r => uptoBulk d + uptoBulkAll r
def uptoBulkEntries {H : Type} : List (Lit × DataW H) → Nat
  | [] => 0
  | x :: r => uptoBulkEntry x + uptoBulkEntries r
def uptoBulkEntry {H : Type} : Lit × DataW H → Nat
  | (.string bytes, d) => bytes.length + uptoBulk d + 1
  | (_, d) => uptoBulk d + 1
 end
def uptoSmall : (H : Type) → List (DataW H) → Bool := fun _ ds => decide (uptoBulkAll ds ≤ 1048576)
def OpenSpec.upto (s : _root_.Go.ChangeSpec) : _root_.Go.OpenSpec := { _root_.Go.OpenSpec.ofChange s with cond := some uptoSmall }

/-- 'sallyportlaw18.ExecSums', WHERE WHAT IT READS IS OF BULK AT MOST 1048576: true; the input reads as it did. -/
def execSumsUptoRow : OpenClaim := { program := "ytlijlabaopiicaagreat", sum := "87e56fb1eb5cd2bdcdb6b1230860aaecaca8d352f6b2c64f086b40cdb2d99068", func := "sallyport/sallyportlaw18.ExecSums", spec := "execSums", inPlace := ["sync/atomic.LoadUint32", "(*internal/sync.Mutex).Lock", "internal/race.Disable", "sync/atomic.CompareAndSwapInt32", "internal/race.Enable", "internal/race.Acquire", "(*internal/sync.Mutex).lockSlow", "internal/sync.runtime_canSpin", "internal/sync.runtime_doSpin", "internal/sync.throw", "internal/sync.runtime_nanotime", "internal/sync.runtime_SemacquireMutex", "sync/atomic.AddInt32", "(*internal/sync.Mutex).Unlock", "internal/race.ReleaseMerge", "(*internal/sync.Mutex).unlockSlow", "internal/sync.fatal", "internal/sync.runtime_Semrelease", "sync/atomic.StoreUint32", "sync/atomic.LoadUint64"], unfollowed := true, recurses := true, apart := false, narrowed := true }
def ExecSumsUptoSaid : Prop := execSumsUptoRow.holds Tryz.pinned (OpenSpec.upto execSumsSpec)

/-- 'sallyportlaw18.ExecCalls', WHERE WHAT IT READS IS OF BULK AT MOST 1048576: true; the input reads as it did. -/
def execCallsUptoRow : OpenClaim := { program := "ytlijlabaopiicaagreat", sum := "87e56fb1eb5cd2bdcdb6b1230860aaecaca8d352f6b2c64f086b40cdb2d99068", func := "sallyport/sallyportlaw18.ExecCalls", spec := "execCalls", inPlace := ["sync/atomic.LoadUint32", "(*internal/sync.Mutex).Lock", "internal/race.Disable", "sync/atomic.CompareAndSwapInt32", "internal/race.Enable", "internal/race.Acquire", "(*internal/sync.Mutex).lockSlow", "internal/sync.runtime_canSpin", "internal/sync.runtime_doSpin", "internal/sync.throw", "internal/sync.runtime_nanotime", "internal/sync.runtime_SemacquireMutex", "sync/atomic.AddInt32", "(*internal/sync.Mutex).Unlock", "internal/race.ReleaseMerge", "(*internal/sync.Mutex).unlockSlow", "internal/sync.fatal", "internal/sync.runtime_Semrelease", "sync/atomic.StoreUint32", "sync/atomic.LoadUint64"], unfollowed := true, recurses := true, apart := false, narrowed := true }
def ExecCallsUptoSaid : Prop := execCallsUptoRow.holds Tryz.pinned (OpenSpec.upto execCallsSpec)

/-- 'sallyportlaw18.ExecBranches', WHERE WHAT IT READS IS OF BULK AT MOST 1048576: true; the input reads as it did. -/
def execBranchesUptoRow : OpenClaim := { program := "ytlijlabaopiicaagreat", sum := "87e56fb1eb5cd2bdcdb6b1230860aaecaca8d352f6b2c64f086b40cdb2d99068", func := "sallyport/sallyportlaw18.ExecBranches", spec := "execBranches", inPlace := ["sync/atomic.LoadUint32", "(*internal/sync.Mutex).Lock", "internal/race.Disable", "sync/atomic.CompareAndSwapInt32", "internal/race.Enable", "internal/race.Acquire", "(*internal/sync.Mutex).lockSlow", "internal/sync.runtime_canSpin", "internal/sync.runtime_doSpin", "internal/sync.throw", "internal/sync.runtime_nanotime", "internal/sync.runtime_SemacquireMutex", "sync/atomic.AddInt32", "(*internal/sync.Mutex).Unlock", "internal/race.ReleaseMerge", "(*internal/sync.Mutex).unlockSlow", "internal/sync.fatal", "internal/sync.runtime_Semrelease", "sync/atomic.StoreUint32", "sync/atomic.LoadUint64"], unfollowed := true, recurses := true, apart := false, narrowed := true }
def ExecBranchesUptoSaid : Prop := execBranchesUptoRow.holds Tryz.pinned (OpenSpec.upto execBranchesSpec)

/-- 'sallyportlaw18.ExecWhole', WHERE WHAT IT READS IS OF BULK AT MOST 1048576: true; the input reads as it did. -/
def execWholeUptoRow : OpenClaim := { program := "ytlijlabaopiicaagreat", sum := "87e56fb1eb5cd2bdcdb6b1230860aaecaca8d352f6b2c64f086b40cdb2d99068", func := "sallyport/sallyportlaw18.ExecWhole", spec := "execWhole", inPlace := ["sync/atomic.LoadUint32", "(*internal/sync.Mutex).Lock", "internal/race.Disable", "sync/atomic.CompareAndSwapInt32", "internal/race.Enable", "internal/race.Acquire", "(*internal/sync.Mutex).lockSlow", "internal/sync.runtime_canSpin", "internal/sync.runtime_doSpin", "internal/sync.throw", "internal/sync.runtime_nanotime", "internal/sync.runtime_SemacquireMutex", "sync/atomic.AddInt32", "(*internal/sync.Mutex).Unlock", "internal/race.ReleaseMerge", "(*internal/sync.Mutex).unlockSlow", "internal/sync.fatal", "internal/sync.runtime_Semrelease", "sync/atomic.StoreUint32", "sync/atomic.LoadUint64"], unfollowed := true, recurses := true, apart := false, narrowed := true }
def ExecWholeUptoSaid : Prop := execWholeUptoRow.holds Tryz.pinned (OpenSpec.upto execWholeSpec)

/-- 'sallyportlaw18.ExecTells', WHERE WHAT IT READS IS OF BULK AT MOST 1048576: true; the input reads as it did. -/
def execTellsUptoRow : OpenClaim := { program := "ytlijlabaopiicaagreat", sum := "87e56fb1eb5cd2bdcdb6b1230860aaecaca8d352f6b2c64f086b40cdb2d99068", func := "sallyport/sallyportlaw18.ExecTells", spec := "execTells", inPlace := ["sync/atomic.LoadUint32", "(*internal/sync.Mutex).Lock", "internal/race.Disable", "sync/atomic.CompareAndSwapInt32", "internal/race.Enable", "internal/race.Acquire", "(*internal/sync.Mutex).lockSlow", "internal/sync.runtime_canSpin", "internal/sync.runtime_doSpin", "internal/sync.throw", "internal/sync.runtime_nanotime", "internal/sync.runtime_SemacquireMutex", "sync/atomic.AddInt32", "(*internal/sync.Mutex).Unlock", "internal/race.ReleaseMerge", "(*internal/sync.Mutex).unlockSlow", "internal/sync.fatal", "internal/sync.runtime_Semrelease", "sync/atomic.StoreUint32", "sync/atomic.LoadUint64"], unfollowed := true, recurses := true, apart := false, narrowed := true }
def ExecTellsUptoSaid : Prop := execTellsUptoRow.holds Tryz.pinned (OpenSpec.upto execTellsSpec)

/-- 'sallyportlaw18.ExecInsns', WHERE WHAT IT READS IS OF BULK AT MOST 1048576: true; the input reads as it did. -/
def execInsnsUptoRow : OpenClaim := { program := "ytlijlabaopiicaagreat", sum := "87e56fb1eb5cd2bdcdb6b1230860aaecaca8d352f6b2c64f086b40cdb2d99068", func := "sallyport/sallyportlaw18.ExecInsns", spec := "execInsns", inPlace := ["sync/atomic.LoadUint32", "(*internal/sync.Mutex).Lock", "internal/race.Disable", "sync/atomic.CompareAndSwapInt32", "internal/race.Enable", "internal/race.Acquire", "(*internal/sync.Mutex).lockSlow", "internal/sync.runtime_canSpin", "internal/sync.runtime_doSpin", "internal/sync.throw", "internal/sync.runtime_nanotime", "internal/sync.runtime_SemacquireMutex", "sync/atomic.AddInt32", "(*internal/sync.Mutex).Unlock", "internal/race.ReleaseMerge", "(*internal/sync.Mutex).unlockSlow", "internal/sync.fatal", "internal/sync.runtime_Semrelease", "sync/atomic.StoreUint32", "sync/atomic.LoadUint64"], unfollowed := true, recurses := true, apart := false, narrowed := true }
def ExecInsnsUptoSaid : Prop := execInsnsUptoRow.holds Tryz.pinned (OpenSpec.upto execInsnsSpec)

end Rows
end Go.Proofs.YtlijlabaopiicaaGreat
