/-
  No cell of these rows narrows 'for every input' (looked for: loops, veiled, ifaces, maps, wideKeys, modest, calm, conditions, laid).
  DERIVED. THE GIVEN ROWS OF THIS SEAT. 17 by the template 'for every input the law returns true; each argument reads behind the call as it read before'; 0 by the template 'total and deterministic' (their statements: YtemkfjnmaljmeaaGreatTotals.lean).
  GIVEN WITH THE SEED: the statements are not yours to turn. If you find one false, say at which input.
  Laid BY PROGRAM, IN A SANDBOX (cutbox-rows.mjs): the forced cells as the released guide's own fill.sh prints them over the translation 8d5400fa6fda2b4f… (all of the seat's roots in one cut). By AI agents, Wed Nov 11 2026. No macro, syntax, notation, axiom, sorry.
-/
import Derived.Test.YtemkfjnmaljmeaaGreatChecked
import GoSem.Claim
import GoSem.ClaimJoined
import GoSem.ClaimMapViews
import Derived.JoinedTies
import Derived.KernelRfl
namespace Go.Proofs.YtemkfjnmaljmeaaGreat
/- THE CELL 'sum', in the pinned program and in every row, IS THE sha256 OF THE DUMP (.gsa) THAT YtemkfjnmaljmeaaGreatProg.lean LOADS. Nothing in Lean hashes anything: it is a label: what it is worth is what the hold of that sum in a sandbox is worth. -/
noncomputable def Tryz.pinned : Pinned := { name := "ytemkfjnmaljmeaagreat", sum := "8d5400fa6fda2b4f9ffd9f92e2fc5a337cc51103151e6943493fe1cf1e0ed814", checked := Tryz.checked }
namespace Rows
def none {H : Type} : Left H := { results := [], args := [] }

/-- 'sallyportlaw17.AccessTells': WHATEVER THE INPUT: true; the input reads as it did. -/
def accessTellsSpec : ChangeSpec := { name := "accessTells", fn := fun _ => fun
  | [d1, d2, d3, d4, d5, d6, d7, d8] => { results := [.lit (.bool true)], args := [d1, d2, d3, d4, d5, d6, d7, d8] }
  | _ => none }
def accessTellsRow : OpenClaim := { program := "ytemkfjnmaljmeaagreat", sum := "8d5400fa6fda2b4f9ffd9f92e2fc5a337cc51103151e6943493fe1cf1e0ed814", func := "sallyport/sallyportlaw17.AccessTells", spec := "accessTells", inPlace := ["sync/atomic.LoadUint64"], unfollowed := true, recurses := true, apart := false }
def AccessTellsSaid : Prop := accessTellsRow.holds Tryz.pinned (OpenSpec.ofChange accessTellsSpec)

/-- ITS FALSE NEIGHBOUR: 'it returns false'. Refute it at one input. -/
def accessTellsWrong : ChangeSpec := { name := "accessTells", fn := fun _ => fun
  | [d1, d2, d3, d4, d5, d6, d7, d8] => { results := [.lit (.bool false)], args := [d1, d2, d3, d4, d5, d6, d7, d8] }
  | _ => none }
def AccessTellsWrongFalsely : Prop := accessTellsRow.holds Tryz.pinned (OpenSpec.ofChange accessTellsWrong)

/-- 'sallyportlaw18.ExecSums': WHATEVER THE INPUT: true; the input reads as it did. -/
def execSumsSpec : ChangeSpec := { name := "execSums", fn := fun _ => fun
  | [d1, d2, d3, d4, d5] => { results := [.lit (.bool true)], args := [d1, d2, d3, d4, d5] }
  | _ => none }
def execSumsRow : OpenClaim := { program := "ytemkfjnmaljmeaagreat", sum := "8d5400fa6fda2b4f9ffd9f92e2fc5a337cc51103151e6943493fe1cf1e0ed814", func := "sallyport/sallyportlaw18.ExecSums", spec := "execSums", inPlace := ["sync/atomic.LoadUint32", "(*internal/sync.Mutex).Lock", "internal/race.Disable", "sync/atomic.CompareAndSwapInt32", "internal/race.Enable", "internal/race.Acquire", "(*internal/sync.Mutex).lockSlow", "internal/sync.runtime_canSpin", "internal/sync.runtime_doSpin", "internal/sync.throw", "internal/sync.runtime_nanotime", "internal/sync.runtime_SemacquireMutex", "sync/atomic.AddInt32", "(*internal/sync.Mutex).Unlock", "internal/race.ReleaseMerge", "(*internal/sync.Mutex).unlockSlow", "internal/sync.fatal", "internal/sync.runtime_Semrelease", "sync/atomic.StoreUint32", "sync/atomic.LoadUint64"], unfollowed := true, recurses := true, apart := false }
def ExecSumsSaid : Prop := execSumsRow.holds Tryz.pinned (OpenSpec.ofChange execSumsSpec)

/-- ITS FALSE NEIGHBOUR: 'it returns false'. Refute it at one input. -/
def execSumsWrong : ChangeSpec := { name := "execSums", fn := fun _ => fun
  | [d1, d2, d3, d4, d5] => { results := [.lit (.bool false)], args := [d1, d2, d3, d4, d5] }
  | _ => none }
def ExecSumsWrongFalsely : Prop := execSumsRow.holds Tryz.pinned (OpenSpec.ofChange execSumsWrong)

/-- 'sallyportlaw18.ExecCalls': WHATEVER THE INPUT: true; the input reads as it did. -/
def execCallsSpec : ChangeSpec := { name := "execCalls", fn := fun _ => fun
  | [d1, d2, d3, d4] => { results := [.lit (.bool true)], args := [d1, d2, d3, d4] }
  | _ => none }
def execCallsRow : OpenClaim := { program := "ytemkfjnmaljmeaagreat", sum := "8d5400fa6fda2b4f9ffd9f92e2fc5a337cc51103151e6943493fe1cf1e0ed814", func := "sallyport/sallyportlaw18.ExecCalls", spec := "execCalls", inPlace := ["sync/atomic.LoadUint32", "(*internal/sync.Mutex).Lock", "internal/race.Disable", "sync/atomic.CompareAndSwapInt32", "internal/race.Enable", "internal/race.Acquire", "(*internal/sync.Mutex).lockSlow", "internal/sync.runtime_canSpin", "internal/sync.runtime_doSpin", "internal/sync.throw", "internal/sync.runtime_nanotime", "internal/sync.runtime_SemacquireMutex", "sync/atomic.AddInt32", "(*internal/sync.Mutex).Unlock", "internal/race.ReleaseMerge", "(*internal/sync.Mutex).unlockSlow", "internal/sync.fatal", "internal/sync.runtime_Semrelease", "sync/atomic.StoreUint32", "sync/atomic.LoadUint64"], unfollowed := true, recurses := true, apart := false }
def ExecCallsSaid : Prop := execCallsRow.holds Tryz.pinned (OpenSpec.ofChange execCallsSpec)

/-- ITS FALSE NEIGHBOUR: 'it returns false'. Refute it at one input. -/
def execCallsWrong : ChangeSpec := { name := "execCalls", fn := fun _ => fun
  | [d1, d2, d3, d4] => { results := [.lit (.bool false)], args := [d1, d2, d3, d4] }
  | _ => none }
def ExecCallsWrongFalsely : Prop := execCallsRow.holds Tryz.pinned (OpenSpec.ofChange execCallsWrong)

/-- 'sallyportlaw18.ExecBranches': WHATEVER THE INPUT: true; the input reads as it did. -/
def execBranchesSpec : ChangeSpec := { name := "execBranches", fn := fun _ => fun
  | [d1, d2, d3, d4] => { results := [.lit (.bool true)], args := [d1, d2, d3, d4] }
  | _ => none }
def execBranchesRow : OpenClaim := { program := "ytemkfjnmaljmeaagreat", sum := "8d5400fa6fda2b4f9ffd9f92e2fc5a337cc51103151e6943493fe1cf1e0ed814", func := "sallyport/sallyportlaw18.ExecBranches", spec := "execBranches", inPlace := ["sync/atomic.LoadUint32", "(*internal/sync.Mutex).Lock", "internal/race.Disable", "sync/atomic.CompareAndSwapInt32", "internal/race.Enable", "internal/race.Acquire", "(*internal/sync.Mutex).lockSlow", "internal/sync.runtime_canSpin", "internal/sync.runtime_doSpin", "internal/sync.throw", "internal/sync.runtime_nanotime", "internal/sync.runtime_SemacquireMutex", "sync/atomic.AddInt32", "(*internal/sync.Mutex).Unlock", "internal/race.ReleaseMerge", "(*internal/sync.Mutex).unlockSlow", "internal/sync.fatal", "internal/sync.runtime_Semrelease", "sync/atomic.StoreUint32", "sync/atomic.LoadUint64"], unfollowed := true, recurses := true, apart := false }
def ExecBranchesSaid : Prop := execBranchesRow.holds Tryz.pinned (OpenSpec.ofChange execBranchesSpec)

/-- ITS FALSE NEIGHBOUR: 'it returns false'. Refute it at one input. -/
def execBranchesWrong : ChangeSpec := { name := "execBranches", fn := fun _ => fun
  | [d1, d2, d3, d4] => { results := [.lit (.bool false)], args := [d1, d2, d3, d4] }
  | _ => none }
def ExecBranchesWrongFalsely : Prop := execBranchesRow.holds Tryz.pinned (OpenSpec.ofChange execBranchesWrong)

/-- 'sallyportlaw18.ExecWhole': WHATEVER THE INPUT: true; the input reads as it did. -/
def execWholeSpec : ChangeSpec := { name := "execWhole", fn := fun _ => fun
  | [d1, d2, d3] => { results := [.lit (.bool true)], args := [d1, d2, d3] }
  | _ => none }
def execWholeRow : OpenClaim := { program := "ytemkfjnmaljmeaagreat", sum := "8d5400fa6fda2b4f9ffd9f92e2fc5a337cc51103151e6943493fe1cf1e0ed814", func := "sallyport/sallyportlaw18.ExecWhole", spec := "execWhole", inPlace := ["sync/atomic.LoadUint32", "(*internal/sync.Mutex).Lock", "internal/race.Disable", "sync/atomic.CompareAndSwapInt32", "internal/race.Enable", "internal/race.Acquire", "(*internal/sync.Mutex).lockSlow", "internal/sync.runtime_canSpin", "internal/sync.runtime_doSpin", "internal/sync.throw", "internal/sync.runtime_nanotime", "internal/sync.runtime_SemacquireMutex", "sync/atomic.AddInt32", "(*internal/sync.Mutex).Unlock", "internal/race.ReleaseMerge", "(*internal/sync.Mutex).unlockSlow", "internal/sync.fatal", "internal/sync.runtime_Semrelease", "sync/atomic.StoreUint32", "sync/atomic.LoadUint64"], unfollowed := true, recurses := true, apart := false }
def ExecWholeSaid : Prop := execWholeRow.holds Tryz.pinned (OpenSpec.ofChange execWholeSpec)

/-- ITS FALSE NEIGHBOUR: 'it returns false'. Refute it at one input. -/
def execWholeWrong : ChangeSpec := { name := "execWhole", fn := fun _ => fun
  | [d1, d2, d3] => { results := [.lit (.bool false)], args := [d1, d2, d3] }
  | _ => none }
def ExecWholeWrongFalsely : Prop := execWholeRow.holds Tryz.pinned (OpenSpec.ofChange execWholeWrong)

/-- 'sallyportlaw18.ExecTells': WHATEVER THE INPUT: true; the input reads as it did. -/
def execTellsSpec : ChangeSpec := { name := "execTells", fn := fun _ => fun
  | [d1, d2, d3] => { results := [.lit (.bool true)], args := [d1, d2, d3] }
  | _ => none }
def execTellsRow : OpenClaim := { program := "ytemkfjnmaljmeaagreat", sum := "8d5400fa6fda2b4f9ffd9f92e2fc5a337cc51103151e6943493fe1cf1e0ed814", func := "sallyport/sallyportlaw18.ExecTells", spec := "execTells", inPlace := ["sync/atomic.LoadUint32", "(*internal/sync.Mutex).Lock", "internal/race.Disable", "sync/atomic.CompareAndSwapInt32", "internal/race.Enable", "internal/race.Acquire", "(*internal/sync.Mutex).lockSlow", "internal/sync.runtime_canSpin", "internal/sync.runtime_doSpin", "internal/sync.throw", "internal/sync.runtime_nanotime", "internal/sync.runtime_SemacquireMutex", "sync/atomic.AddInt32", "(*internal/sync.Mutex).Unlock", "internal/race.ReleaseMerge", "(*internal/sync.Mutex).unlockSlow", "internal/sync.fatal", "internal/sync.runtime_Semrelease", "sync/atomic.StoreUint32", "sync/atomic.LoadUint64"], unfollowed := true, recurses := true, apart := false }
def ExecTellsSaid : Prop := execTellsRow.holds Tryz.pinned (OpenSpec.ofChange execTellsSpec)

/-- ITS FALSE NEIGHBOUR: 'it returns false'. Refute it at one input. -/
def execTellsWrong : ChangeSpec := { name := "execTells", fn := fun _ => fun
  | [d1, d2, d3] => { results := [.lit (.bool false)], args := [d1, d2, d3] }
  | _ => none }
def ExecTellsWrongFalsely : Prop := execTellsRow.holds Tryz.pinned (OpenSpec.ofChange execTellsWrong)

/-- 'sallyportlaw18.ExecInsns': WHATEVER THE INPUT: true; the input reads as it did. -/
def execInsnsSpec : ChangeSpec := { name := "execInsns", fn := fun _ => fun
  | [d1, d2, d3, d4] => { results := [.lit (.bool true)], args := [d1, d2, d3, d4] }
  | _ => none }
def execInsnsRow : OpenClaim := { program := "ytemkfjnmaljmeaagreat", sum := "8d5400fa6fda2b4f9ffd9f92e2fc5a337cc51103151e6943493fe1cf1e0ed814", func := "sallyport/sallyportlaw18.ExecInsns", spec := "execInsns", inPlace := ["sync/atomic.LoadUint32", "(*internal/sync.Mutex).Lock", "internal/race.Disable", "sync/atomic.CompareAndSwapInt32", "internal/race.Enable", "internal/race.Acquire", "(*internal/sync.Mutex).lockSlow", "internal/sync.runtime_canSpin", "internal/sync.runtime_doSpin", "internal/sync.throw", "internal/sync.runtime_nanotime", "internal/sync.runtime_SemacquireMutex", "sync/atomic.AddInt32", "(*internal/sync.Mutex).Unlock", "internal/race.ReleaseMerge", "(*internal/sync.Mutex).unlockSlow", "internal/sync.fatal", "internal/sync.runtime_Semrelease", "sync/atomic.StoreUint32", "sync/atomic.LoadUint64"], unfollowed := true, recurses := true, apart := false }
def ExecInsnsSaid : Prop := execInsnsRow.holds Tryz.pinned (OpenSpec.ofChange execInsnsSpec)

/-- ITS FALSE NEIGHBOUR: 'it returns false'. Refute it at one input. -/
def execInsnsWrong : ChangeSpec := { name := "execInsns", fn := fun _ => fun
  | [d1, d2, d3, d4] => { results := [.lit (.bool false)], args := [d1, d2, d3, d4] }
  | _ => none }
def ExecInsnsWrongFalsely : Prop := execInsnsRow.holds Tryz.pinned (OpenSpec.ofChange execInsnsWrong)

/-- 'sallyportlaw19.IsaBegins': WHATEVER THE INPUT: true; the input reads as it did. -/
def isaBeginsSpec : ChangeSpec := { name := "isaBegins", fn := fun _ => fun
  | [d] => { results := [.lit (.bool true)], args := [d] }
  | _ => none }
def isaBeginsRow : OpenClaim := { program := "ytemkfjnmaljmeaagreat", sum := "8d5400fa6fda2b4f9ffd9f92e2fc5a337cc51103151e6943493fe1cf1e0ed814", func := "sallyport/sallyportlaw19.IsaBegins", spec := "isaBegins", inPlace := ["sync/atomic.AddInt64", "sync/atomic.StoreUint64", "sync/atomic.LoadUint64", "sync/atomic.LoadUint32", "(*internal/sync.Mutex).Lock", "internal/race.Disable", "sync/atomic.CompareAndSwapInt32", "internal/race.Enable", "internal/race.Acquire", "(*internal/sync.Mutex).lockSlow", "internal/sync.runtime_canSpin", "internal/sync.runtime_doSpin", "internal/sync.throw", "internal/sync.runtime_nanotime", "internal/sync.runtime_SemacquireMutex", "sync/atomic.AddInt32", "(*internal/sync.Mutex).Unlock", "internal/race.ReleaseMerge", "(*internal/sync.Mutex).unlockSlow", "internal/sync.fatal", "internal/sync.runtime_Semrelease", "sync/atomic.StoreUint32"], unfollowed := true, recurses := true, apart := false }
def IsaBeginsSaid : Prop := isaBeginsRow.holds Tryz.pinned (OpenSpec.ofChange isaBeginsSpec)

/-- ITS FALSE NEIGHBOUR: 'it returns false'. Refute it at one input. -/
def isaBeginsWrong : ChangeSpec := { name := "isaBegins", fn := fun _ => fun
  | [d] => { results := [.lit (.bool false)], args := [d] }
  | _ => none }
def IsaBeginsWrongFalsely : Prop := isaBeginsRow.holds Tryz.pinned (OpenSpec.ofChange isaBeginsWrong)

/-- 'sallyportlaw19.IsaCounts': WHATEVER THE INPUT: true; the input reads as it did. -/
def isaCountsSpec : ChangeSpec := { name := "isaCounts", fn := fun _ => fun
  | [d] => { results := [.lit (.bool true)], args := [d] }
  | _ => none }
def isaCountsRow : OpenClaim := { program := "ytemkfjnmaljmeaagreat", sum := "8d5400fa6fda2b4f9ffd9f92e2fc5a337cc51103151e6943493fe1cf1e0ed814", func := "sallyport/sallyportlaw19.IsaCounts", spec := "isaCounts", inPlace := ["sync/atomic.AddInt64", "sync/atomic.StoreUint64", "sync/atomic.LoadUint64", "sync/atomic.LoadUint32", "(*internal/sync.Mutex).Lock", "internal/race.Disable", "sync/atomic.CompareAndSwapInt32", "internal/race.Enable", "internal/race.Acquire", "(*internal/sync.Mutex).lockSlow", "internal/sync.runtime_canSpin", "internal/sync.runtime_doSpin", "internal/sync.throw", "internal/sync.runtime_nanotime", "internal/sync.runtime_SemacquireMutex", "sync/atomic.AddInt32", "(*internal/sync.Mutex).Unlock", "internal/race.ReleaseMerge", "(*internal/sync.Mutex).unlockSlow", "internal/sync.fatal", "internal/sync.runtime_Semrelease", "sync/atomic.StoreUint32"], unfollowed := true, recurses := true, apart := false }
def IsaCountsSaid : Prop := isaCountsRow.holds Tryz.pinned (OpenSpec.ofChange isaCountsSpec)

/-- ITS FALSE NEIGHBOUR: 'it returns false'. Refute it at one input. -/
def isaCountsWrong : ChangeSpec := { name := "isaCounts", fn := fun _ => fun
  | [d] => { results := [.lit (.bool false)], args := [d] }
  | _ => none }
def IsaCountsWrongFalsely : Prop := isaCountsRow.holds Tryz.pinned (OpenSpec.ofChange isaCountsWrong)

/-- 'sallyportlaw19.IsaTimes': WHATEVER THE INPUT: true; the input reads as it did. -/
def isaTimesSpec : ChangeSpec := { name := "isaTimes", fn := fun _ => fun
  | [d1, d2] => { results := [.lit (.bool true)], args := [d1, d2] }
  | _ => none }
def isaTimesRow : OpenClaim := { program := "ytemkfjnmaljmeaagreat", sum := "8d5400fa6fda2b4f9ffd9f92e2fc5a337cc51103151e6943493fe1cf1e0ed814", func := "sallyport/sallyportlaw19.IsaTimes", spec := "isaTimes", inPlace := ["sync/atomic.AddInt64", "sync/atomic.StoreUint64", "sync/atomic.LoadUint64", "sync/atomic.LoadUint32", "(*internal/sync.Mutex).Lock", "internal/race.Disable", "sync/atomic.CompareAndSwapInt32", "internal/race.Enable", "internal/race.Acquire", "(*internal/sync.Mutex).lockSlow", "internal/sync.runtime_canSpin", "internal/sync.runtime_doSpin", "internal/sync.throw", "internal/sync.runtime_nanotime", "internal/sync.runtime_SemacquireMutex", "sync/atomic.AddInt32", "(*internal/sync.Mutex).Unlock", "internal/race.ReleaseMerge", "(*internal/sync.Mutex).unlockSlow", "internal/sync.fatal", "internal/sync.runtime_Semrelease", "sync/atomic.StoreUint32"], unfollowed := true, recurses := true, apart := false }
def IsaTimesSaid : Prop := isaTimesRow.holds Tryz.pinned (OpenSpec.ofChange isaTimesSpec)

/-- ITS FALSE NEIGHBOUR: 'it returns false'. Refute it at one input. -/
def isaTimesWrong : ChangeSpec := { name := "isaTimes", fn := fun _ => fun
  | [d1, d2] => { results := [.lit (.bool false)], args := [d1, d2] }
  | _ => none }
def IsaTimesWrongFalsely : Prop := isaTimesRow.holds Tryz.pinned (OpenSpec.ofChange isaTimesWrong)

/-- 'sallyportlaw19.IsaPlays': WHATEVER THE INPUT: true; the input reads as it did. -/
def isaPlaysSpec : ChangeSpec := { name := "isaPlays", fn := fun _ => fun
  | [d1, d2, d3, d4] => { results := [.lit (.bool true)], args := [d1, d2, d3, d4] }
  | _ => none }
def isaPlaysRow : OpenClaim := { program := "ytemkfjnmaljmeaagreat", sum := "8d5400fa6fda2b4f9ffd9f92e2fc5a337cc51103151e6943493fe1cf1e0ed814", func := "sallyport/sallyportlaw19.IsaPlays", spec := "isaPlays", inPlace := ["sync/atomic.AddInt64", "sync/atomic.StoreUint64", "sync/atomic.LoadUint64", "sync/atomic.LoadUint32", "(*internal/sync.Mutex).Lock", "internal/race.Disable", "sync/atomic.CompareAndSwapInt32", "internal/race.Enable", "internal/race.Acquire", "(*internal/sync.Mutex).lockSlow", "internal/sync.runtime_canSpin", "internal/sync.runtime_doSpin", "internal/sync.throw", "internal/sync.runtime_nanotime", "internal/sync.runtime_SemacquireMutex", "sync/atomic.AddInt32", "(*internal/sync.Mutex).Unlock", "internal/race.ReleaseMerge", "(*internal/sync.Mutex).unlockSlow", "internal/sync.fatal", "internal/sync.runtime_Semrelease", "sync/atomic.StoreUint32"], unfollowed := true, recurses := true, apart := false }
def IsaPlaysSaid : Prop := isaPlaysRow.holds Tryz.pinned (OpenSpec.ofChange isaPlaysSpec)

/-- ITS FALSE NEIGHBOUR: 'it returns false'. Refute it at one input. -/
def isaPlaysWrong : ChangeSpec := { name := "isaPlays", fn := fun _ => fun
  | [d1, d2, d3, d4] => { results := [.lit (.bool false)], args := [d1, d2, d3, d4] }
  | _ => none }
def IsaPlaysWrongFalsely : Prop := isaPlaysRow.holds Tryz.pinned (OpenSpec.ofChange isaPlaysWrong)

/-- 'sallyportlaw23.AuditSame': WHATEVER THE INPUT: true; the input reads as it did. -/
def auditSameSpec : ChangeSpec := { name := "auditSame", fn := fun _ => fun
  | [d1, d2] => { results := [.lit (.bool true)], args := [d1, d2] }
  | _ => none }
def auditSameRow : OpenClaim := { program := "ytemkfjnmaljmeaagreat", sum := "8d5400fa6fda2b4f9ffd9f92e2fc5a337cc51103151e6943493fe1cf1e0ed814", func := "sallyport/sallyportlaw23.AuditSame", spec := "auditSame", inPlace := ["sync/atomic.LoadUint64", "sync/atomic.StoreUint64", "sync/atomic.LoadInt64", "sync/atomic.StoreInt64", "sync/atomic.AddInt64", "sync/atomic.LoadUint32", "(*internal/sync.Mutex).Lock", "internal/race.Disable", "sync/atomic.CompareAndSwapInt32", "internal/race.Enable", "internal/race.Acquire", "(*internal/sync.Mutex).lockSlow", "internal/sync.runtime_canSpin", "internal/sync.runtime_doSpin", "internal/sync.throw", "internal/sync.runtime_nanotime", "internal/sync.runtime_SemacquireMutex", "sync/atomic.AddInt32", "(*internal/sync.Mutex).Unlock", "internal/race.ReleaseMerge", "(*internal/sync.Mutex).unlockSlow", "internal/sync.fatal", "internal/sync.runtime_Semrelease", "sync/atomic.StoreUint32"], unfollowed := true, recurses := true, apart := false }
def AuditSameSaid : Prop := auditSameRow.holds Tryz.pinned (OpenSpec.ofChange auditSameSpec)

/-- ITS FALSE NEIGHBOUR: 'it returns false'. Refute it at one input. -/
def auditSameWrong : ChangeSpec := { name := "auditSame", fn := fun _ => fun
  | [d1, d2] => { results := [.lit (.bool false)], args := [d1, d2] }
  | _ => none }
def AuditSameWrongFalsely : Prop := auditSameRow.holds Tryz.pinned (OpenSpec.ofChange auditSameWrong)

/-- 'sallyportlaw19.IsaRuns': WHATEVER THE INPUT: true; the input reads as it did. -/
def isaRunsSpec : ChangeSpec := { name := "isaRuns", fn := fun _ => fun
  | [d1, d2, d3, d4, d5] => { results := [.lit (.bool true)], args := [d1, d2, d3, d4, d5] }
  | _ => none }
def isaRunsRow : OpenClaim := { program := "ytemkfjnmaljmeaagreat", sum := "8d5400fa6fda2b4f9ffd9f92e2fc5a337cc51103151e6943493fe1cf1e0ed814", func := "sallyport/sallyportlaw19.IsaRuns", spec := "isaRuns", inPlace := ["sync/atomic.AddInt64", "sync/atomic.StoreUint64", "sync/atomic.LoadUint64", "sync/atomic.LoadUint32", "(*internal/sync.Mutex).Lock", "internal/race.Disable", "sync/atomic.CompareAndSwapInt32", "internal/race.Enable", "internal/race.Acquire", "(*internal/sync.Mutex).lockSlow", "internal/sync.runtime_canSpin", "internal/sync.runtime_doSpin", "internal/sync.throw", "internal/sync.runtime_nanotime", "internal/sync.runtime_SemacquireMutex", "sync/atomic.AddInt32", "(*internal/sync.Mutex).Unlock", "internal/race.ReleaseMerge", "(*internal/sync.Mutex).unlockSlow", "internal/sync.fatal", "internal/sync.runtime_Semrelease", "sync/atomic.StoreUint32", "sync/atomic.LoadInt64", "sync/atomic.StoreInt64"], unfollowed := true, recurses := true, apart := false }
def IsaRunsSaid : Prop := isaRunsRow.holds Tryz.pinned (OpenSpec.ofChange isaRunsSpec)

/-- ITS FALSE NEIGHBOUR: 'it returns false'. Refute it at one input. -/
def isaRunsWrong : ChangeSpec := { name := "isaRuns", fn := fun _ => fun
  | [d1, d2, d3, d4, d5] => { results := [.lit (.bool false)], args := [d1, d2, d3, d4, d5] }
  | _ => none }
def IsaRunsWrongFalsely : Prop := isaRunsRow.holds Tryz.pinned (OpenSpec.ofChange isaRunsWrong)

/-- 'sallyportlaw27.SoloTells': WHATEVER THE INPUT: true; the input reads as it did. -/
def soloTellsSpec : ChangeSpec := { name := "soloTells", fn := fun _ => fun
  | [d1, d2] => { results := [.lit (.bool true)], args := [d1, d2] }
  | _ => none }
def soloTellsRow : OpenClaim := { program := "ytemkfjnmaljmeaagreat", sum := "8d5400fa6fda2b4f9ffd9f92e2fc5a337cc51103151e6943493fe1cf1e0ed814", func := "sallyport/sallyportlaw27.SoloTells", spec := "soloTells", inPlace := ["sync/atomic.AddInt64", "sync/atomic.StoreUint64", "sync/atomic.LoadUint64", "sync/atomic.LoadUint32", "(*internal/sync.Mutex).Lock", "internal/race.Disable", "sync/atomic.CompareAndSwapInt32", "internal/race.Enable", "internal/race.Acquire", "(*internal/sync.Mutex).lockSlow", "internal/sync.runtime_canSpin", "internal/sync.runtime_doSpin", "internal/sync.throw", "internal/sync.runtime_nanotime", "internal/sync.runtime_SemacquireMutex", "sync/atomic.AddInt32", "(*internal/sync.Mutex).Unlock", "internal/race.ReleaseMerge", "(*internal/sync.Mutex).unlockSlow", "internal/sync.fatal", "internal/sync.runtime_Semrelease", "sync/atomic.StoreUint32"], unfollowed := true, recurses := true, apart := false }
def SoloTellsSaid : Prop := soloTellsRow.holds Tryz.pinned (OpenSpec.ofChange soloTellsSpec)

/-- ITS FALSE NEIGHBOUR: 'it returns false'. Refute it at one input. -/
def soloTellsWrong : ChangeSpec := { name := "soloTells", fn := fun _ => fun
  | [d1, d2] => { results := [.lit (.bool false)], args := [d1, d2] }
  | _ => none }
def SoloTellsWrongFalsely : Prop := soloTellsRow.holds Tryz.pinned (OpenSpec.ofChange soloTellsWrong)

/-- 'sallyportlaw27.SoloParts': WHATEVER THE INPUT: true; the input reads as it did. -/
def soloPartsSpec : ChangeSpec := { name := "soloParts", fn := fun _ => fun
  | [d1, d2, d3] => { results := [.lit (.bool true)], args := [d1, d2, d3] }
  | _ => none }
def soloPartsRow : OpenClaim := { program := "ytemkfjnmaljmeaagreat", sum := "8d5400fa6fda2b4f9ffd9f92e2fc5a337cc51103151e6943493fe1cf1e0ed814", func := "sallyport/sallyportlaw27.SoloParts", spec := "soloParts", inPlace := ["sync/atomic.AddInt64", "sync/atomic.StoreUint64", "sync/atomic.LoadUint64", "sync/atomic.LoadUint32", "(*internal/sync.Mutex).Lock", "internal/race.Disable", "sync/atomic.CompareAndSwapInt32", "internal/race.Enable", "internal/race.Acquire", "(*internal/sync.Mutex).lockSlow", "internal/sync.runtime_canSpin", "internal/sync.runtime_doSpin", "internal/sync.throw", "internal/sync.runtime_nanotime", "internal/sync.runtime_SemacquireMutex", "sync/atomic.AddInt32", "(*internal/sync.Mutex).Unlock", "internal/race.ReleaseMerge", "(*internal/sync.Mutex).unlockSlow", "internal/sync.fatal", "internal/sync.runtime_Semrelease", "sync/atomic.StoreUint32"], unfollowed := true, recurses := true, apart := false }
def SoloPartsSaid : Prop := soloPartsRow.holds Tryz.pinned (OpenSpec.ofChange soloPartsSpec)

/-- ITS FALSE NEIGHBOUR: 'it returns false'. Refute it at one input. -/
def soloPartsWrong : ChangeSpec := { name := "soloParts", fn := fun _ => fun
  | [d1, d2, d3] => { results := [.lit (.bool false)], args := [d1, d2, d3] }
  | _ => none }
def SoloPartsWrongFalsely : Prop := soloPartsRow.holds Tryz.pinned (OpenSpec.ofChange soloPartsWrong)

/-- 'sallyportlaw27.SoloReads': WHATEVER THE INPUT: true; the input reads as it did. -/
def soloReadsSpec : ChangeSpec := { name := "soloReads", fn := fun _ => fun
  | [d] => { results := [.lit (.bool true)], args := [d] }
  | _ => none }
def soloReadsRow : OpenClaim := { program := "ytemkfjnmaljmeaagreat", sum := "8d5400fa6fda2b4f9ffd9f92e2fc5a337cc51103151e6943493fe1cf1e0ed814", func := "sallyport/sallyportlaw27.SoloReads", spec := "soloReads", inPlace := ["sync/atomic.AddInt64", "sync/atomic.StoreUint64", "sync/atomic.LoadUint64", "sync/atomic.LoadUint32", "(*internal/sync.Mutex).Lock", "internal/race.Disable", "sync/atomic.CompareAndSwapInt32", "internal/race.Enable", "internal/race.Acquire", "(*internal/sync.Mutex).lockSlow", "internal/sync.runtime_canSpin", "internal/sync.runtime_doSpin", "internal/sync.throw", "internal/sync.runtime_nanotime", "internal/sync.runtime_SemacquireMutex", "sync/atomic.AddInt32", "(*internal/sync.Mutex).Unlock", "internal/race.ReleaseMerge", "(*internal/sync.Mutex).unlockSlow", "internal/sync.fatal", "internal/sync.runtime_Semrelease", "sync/atomic.StoreUint32"], unfollowed := true, recurses := true, apart := false }
def SoloReadsSaid : Prop := soloReadsRow.holds Tryz.pinned (OpenSpec.ofChange soloReadsSpec)

/-- ITS FALSE NEIGHBOUR: 'it returns false'. Refute it at one input. -/
def soloReadsWrong : ChangeSpec := { name := "soloReads", fn := fun _ => fun
  | [d] => { results := [.lit (.bool false)], args := [d] }
  | _ => none }
def SoloReadsWrongFalsely : Prop := soloReadsRow.holds Tryz.pinned (OpenSpec.ofChange soloReadsWrong)

/-- 'sallyportlaw27.SoloSameness': WHATEVER THE INPUT: true; the input reads as it did. -/
def soloSamenessSpec : ChangeSpec := { name := "soloSameness", fn := fun _ => fun
  | [d1, d2, d3] => { results := [.lit (.bool true)], args := [d1, d2, d3] }
  | _ => none }
def soloSamenessRow : OpenClaim := { program := "ytemkfjnmaljmeaagreat", sum := "8d5400fa6fda2b4f9ffd9f92e2fc5a337cc51103151e6943493fe1cf1e0ed814", func := "sallyport/sallyportlaw27.SoloSameness", spec := "soloSameness", inPlace := ["sync/atomic.AddInt64", "sync/atomic.StoreUint64", "sync/atomic.LoadUint64", "sync/atomic.LoadUint32", "(*internal/sync.Mutex).Lock", "internal/race.Disable", "sync/atomic.CompareAndSwapInt32", "internal/race.Enable", "internal/race.Acquire", "(*internal/sync.Mutex).lockSlow", "internal/sync.runtime_canSpin", "internal/sync.runtime_doSpin", "internal/sync.throw", "internal/sync.runtime_nanotime", "internal/sync.runtime_SemacquireMutex", "sync/atomic.AddInt32", "(*internal/sync.Mutex).Unlock", "internal/race.ReleaseMerge", "(*internal/sync.Mutex).unlockSlow", "internal/sync.fatal", "internal/sync.runtime_Semrelease", "sync/atomic.StoreUint32"], unfollowed := true, recurses := true, apart := false }
def SoloSamenessSaid : Prop := soloSamenessRow.holds Tryz.pinned (OpenSpec.ofChange soloSamenessSpec)

/-- ITS FALSE NEIGHBOUR: 'it returns false'. Refute it at one input. -/
def soloSamenessWrong : ChangeSpec := { name := "soloSameness", fn := fun _ => fun
  | [d1, d2, d3] => { results := [.lit (.bool false)], args := [d1, d2, d3] }
  | _ => none }
def SoloSamenessWrongFalsely : Prop := soloSamenessRow.holds Tryz.pinned (OpenSpec.ofChange soloSamenessWrong)

/- THE SECOND FORM. 'bulk': how many values and letters a reading holds, each counted each time it is reached (what is shared counts as often as it is met; a slice's spare places count too). A statement '..UptoSaid' is the law's where the arguments, and the package variables that the reading takes, are together of bulk at most 1048576: NARROWER than '..Said'. Prove '..Said' where nothing that the law and all that it calls make is longer than what came in: it says more and counts as full. Else prove '..UptoSaid'. A law counts once. -/
mutual
def uptoBulk {H : Type} : DataW H → Nat
  | .lit (.string bytes) => bytes.length + 1
  | .lit _ => 1
  | .nil => 1
  | .ptr d => uptoBulk d + 1
  | .slice elems spare => uptoBulkAll elems + uptoBulkAll spare + 1
  | .agg parts => uptoBulkAll parts + 1
  | .iface _ d => uptoBulk d + 1
  | .map entries => uptoBulkEntries entries + 1
  | .held _ => 1
def uptoBulkAll {H : Type} : List (DataW H) → Nat
  | [] => 0
  | d :: r => uptoBulk d + uptoBulkAll r
def uptoBulkEntries {H : Type} : List (Lit × DataW H) → Nat
  | [] => 0
  | x :: r => uptoBulkEntry x + uptoBulkEntries r
def uptoBulkEntry {H : Type} : Lit × DataW H → Nat
  | (.string bytes, d) => bytes.length + uptoBulk d + 1
  | (_, d) => uptoBulk d + 1
 end
def uptoSmall : (H : Type) → List (DataW H) → Bool := fun _ ds => decide (uptoBulkAll ds ≤ 1048576)
def OpenSpec.upto (s : _root_.Go.ChangeSpec) : _root_.Go.OpenSpec := { _root_.Go.OpenSpec.ofChange s with cond := some uptoSmall }

/-- 'sallyportlaw17.AccessTells', WHERE WHAT IT READS IS OF BULK AT MOST 1048576: true; the input reads as it did. -/
def accessTellsUptoRow : OpenClaim := { program := "ytemkfjnmaljmeaagreat", sum := "8d5400fa6fda2b4f9ffd9f92e2fc5a337cc51103151e6943493fe1cf1e0ed814", func := "sallyport/sallyportlaw17.AccessTells", spec := "accessTells", inPlace := ["sync/atomic.LoadUint64"], unfollowed := true, recurses := true, apart := false, narrowed := true }
def AccessTellsUptoSaid : Prop := accessTellsUptoRow.holds Tryz.pinned (OpenSpec.upto accessTellsSpec)

/-- 'sallyportlaw18.ExecSums', WHERE WHAT IT READS IS OF BULK AT MOST 1048576: true; the input reads as it did. -/
def execSumsUptoRow : OpenClaim := { program := "ytemkfjnmaljmeaagreat", sum := "8d5400fa6fda2b4f9ffd9f92e2fc5a337cc51103151e6943493fe1cf1e0ed814", func := "sallyport/sallyportlaw18.ExecSums", spec := "execSums", inPlace := ["sync/atomic.LoadUint32", "(*internal/sync.Mutex).Lock", "internal/race.Disable", "sync/atomic.CompareAndSwapInt32", "internal/race.Enable", "internal/race.Acquire", "(*internal/sync.Mutex).lockSlow", "internal/sync.runtime_canSpin", "internal/sync.runtime_doSpin", "internal/sync.throw", "internal/sync.runtime_nanotime", "internal/sync.runtime_SemacquireMutex", "sync/atomic.AddInt32", "(*internal/sync.Mutex).Unlock", "internal/race.ReleaseMerge", "(*internal/sync.Mutex).unlockSlow", "internal/sync.fatal", "internal/sync.runtime_Semrelease", "sync/atomic.StoreUint32", "sync/atomic.LoadUint64"], unfollowed := true, recurses := true, apart := false, narrowed := true }
def ExecSumsUptoSaid : Prop := execSumsUptoRow.holds Tryz.pinned (OpenSpec.upto execSumsSpec)

/-- 'sallyportlaw18.ExecCalls', WHERE WHAT IT READS IS OF BULK AT MOST 1048576: true; the input reads as it did. -/
def execCallsUptoRow : OpenClaim := { program := "ytemkfjnmaljmeaagreat", sum := "8d5400fa6fda2b4f9ffd9f92e2fc5a337cc51103151e6943493fe1cf1e0ed814", func := "sallyport/sallyportlaw18.ExecCalls", spec := "execCalls", inPlace := ["sync/atomic.LoadUint32", "(*internal/sync.Mutex).Lock", "internal/race.Disable", "sync/atomic.CompareAndSwapInt32", "internal/race.Enable", "internal/race.Acquire", "(*internal/sync.Mutex).lockSlow", "internal/sync.runtime_canSpin", "internal/sync.runtime_doSpin", "internal/sync.throw", "internal/sync.runtime_nanotime", "internal/sync.runtime_SemacquireMutex", "sync/atomic.AddInt32", "(*internal/sync.Mutex).Unlock", "internal/race.ReleaseMerge", "(*internal/sync.Mutex).unlockSlow", "internal/sync.fatal", "internal/sync.runtime_Semrelease", "sync/atomic.StoreUint32", "sync/atomic.LoadUint64"], unfollowed := true, recurses := true, apart := false, narrowed := true }
def ExecCallsUptoSaid : Prop := execCallsUptoRow.holds Tryz.pinned (OpenSpec.upto execCallsSpec)

/-- 'sallyportlaw18.ExecBranches', WHERE WHAT IT READS IS OF BULK AT MOST 1048576: true; the input reads as it did. -/
def execBranchesUptoRow : OpenClaim := { program := "ytemkfjnmaljmeaagreat", sum := "8d5400fa6fda2b4f9ffd9f92e2fc5a337cc51103151e6943493fe1cf1e0ed814", func := "sallyport/sallyportlaw18.ExecBranches", spec := "execBranches", inPlace := ["sync/atomic.LoadUint32", "(*internal/sync.Mutex).Lock", "internal/race.Disable", "sync/atomic.CompareAndSwapInt32", "internal/race.Enable", "internal/race.Acquire", "(*internal/sync.Mutex).lockSlow", "internal/sync.runtime_canSpin", "internal/sync.runtime_doSpin", "internal/sync.throw", "internal/sync.runtime_nanotime", "internal/sync.runtime_SemacquireMutex", "sync/atomic.AddInt32", "(*internal/sync.Mutex).Unlock", "internal/race.ReleaseMerge", "(*internal/sync.Mutex).unlockSlow", "internal/sync.fatal", "internal/sync.runtime_Semrelease", "sync/atomic.StoreUint32", "sync/atomic.LoadUint64"], unfollowed := true, recurses := true, apart := false, narrowed := true }
def ExecBranchesUptoSaid : Prop := execBranchesUptoRow.holds Tryz.pinned (OpenSpec.upto execBranchesSpec)

/-- 'sallyportlaw18.ExecWhole', WHERE WHAT IT READS IS OF BULK AT MOST 1048576: true; the input reads as it did. -/
def execWholeUptoRow : OpenClaim := { program := "ytemkfjnmaljmeaagreat", sum := "8d5400fa6fda2b4f9ffd9f92e2fc5a337cc51103151e6943493fe1cf1e0ed814", func := "sallyport/sallyportlaw18.ExecWhole", spec := "execWhole", inPlace := ["sync/atomic.LoadUint32", "(*internal/sync.Mutex).Lock", "internal/race.Disable", "sync/atomic.CompareAndSwapInt32", "internal/race.Enable", "internal/race.Acquire", "(*internal/sync.Mutex).lockSlow", "internal/sync.runtime_canSpin", "internal/sync.runtime_doSpin", "internal/sync.throw", "internal/sync.runtime_nanotime", "internal/sync.runtime_SemacquireMutex", "sync/atomic.AddInt32", "(*internal/sync.Mutex).Unlock", "internal/race.ReleaseMerge", "(*internal/sync.Mutex).unlockSlow", "internal/sync.fatal", "internal/sync.runtime_Semrelease", "sync/atomic.StoreUint32", "sync/atomic.LoadUint64"], unfollowed := true, recurses := true, apart := false, narrowed := true }
def ExecWholeUptoSaid : Prop := execWholeUptoRow.holds Tryz.pinned (OpenSpec.upto execWholeSpec)

/-- 'sallyportlaw18.ExecTells', WHERE WHAT IT READS IS OF BULK AT MOST 1048576: true; the input reads as it did. -/
def execTellsUptoRow : OpenClaim := { program := "ytemkfjnmaljmeaagreat", sum := "8d5400fa6fda2b4f9ffd9f92e2fc5a337cc51103151e6943493fe1cf1e0ed814", func := "sallyport/sallyportlaw18.ExecTells", spec := "execTells", inPlace := ["sync/atomic.LoadUint32", "(*internal/sync.Mutex).Lock", "internal/race.Disable", "sync/atomic.CompareAndSwapInt32", "internal/race.Enable", "internal/race.Acquire", "(*internal/sync.Mutex).lockSlow", "internal/sync.runtime_canSpin", "internal/sync.runtime_doSpin", "internal/sync.throw", "internal/sync.runtime_nanotime", "internal/sync.runtime_SemacquireMutex", "sync/atomic.AddInt32", "(*internal/sync.Mutex).Unlock", "internal/race.ReleaseMerge", "(*internal/sync.Mutex).unlockSlow", "internal/sync.fatal", "internal/sync.runtime_Semrelease", "sync/atomic.StoreUint32", "sync/atomic.LoadUint64"], unfollowed := true, recurses := true, apart := false, narrowed := true }
def ExecTellsUptoSaid : Prop := execTellsUptoRow.holds Tryz.pinned (OpenSpec.upto execTellsSpec)

/-- 'sallyportlaw18.ExecInsns', WHERE WHAT IT READS IS OF BULK AT MOST 1048576: true; the input reads as it did. -/
def execInsnsUptoRow : OpenClaim := { program := "ytemkfjnmaljmeaagreat", sum := "8d5400fa6fda2b4f9ffd9f92e2fc5a337cc51103151e6943493fe1cf1e0ed814", func := "sallyport/sallyportlaw18.ExecInsns", spec := "execInsns", inPlace := ["sync/atomic.LoadUint32", "(*internal/sync.Mutex).Lock", "internal/race.Disable", "sync/atomic.CompareAndSwapInt32", "internal/race.Enable", "internal/race.Acquire", "(*internal/sync.Mutex).lockSlow", "internal/sync.runtime_canSpin", "internal/sync.runtime_doSpin", "internal/sync.throw", "internal/sync.runtime_nanotime", "internal/sync.runtime_SemacquireMutex", "sync/atomic.AddInt32", "(*internal/sync.Mutex).Unlock", "internal/race.ReleaseMerge", "(*internal/sync.Mutex).unlockSlow", "internal/sync.fatal", "internal/sync.runtime_Semrelease", "sync/atomic.StoreUint32", "sync/atomic.LoadUint64"], unfollowed := true, recurses := true, apart := false, narrowed := true }
def ExecInsnsUptoSaid : Prop := execInsnsUptoRow.holds Tryz.pinned (OpenSpec.upto execInsnsSpec)

/-- 'sallyportlaw19.IsaBegins', WHERE WHAT IT READS IS OF BULK AT MOST 1048576: true; the input reads as it did. -/
def isaBeginsUptoRow : OpenClaim := { program := "ytemkfjnmaljmeaagreat", sum := "8d5400fa6fda2b4f9ffd9f92e2fc5a337cc51103151e6943493fe1cf1e0ed814", func := "sallyport/sallyportlaw19.IsaBegins", spec := "isaBegins", inPlace := ["sync/atomic.AddInt64", "sync/atomic.StoreUint64", "sync/atomic.LoadUint64", "sync/atomic.LoadUint32", "(*internal/sync.Mutex).Lock", "internal/race.Disable", "sync/atomic.CompareAndSwapInt32", "internal/race.Enable", "internal/race.Acquire", "(*internal/sync.Mutex).lockSlow", "internal/sync.runtime_canSpin", "internal/sync.runtime_doSpin", "internal/sync.throw", "internal/sync.runtime_nanotime", "internal/sync.runtime_SemacquireMutex", "sync/atomic.AddInt32", "(*internal/sync.Mutex).Unlock", "internal/race.ReleaseMerge", "(*internal/sync.Mutex).unlockSlow", "internal/sync.fatal", "internal/sync.runtime_Semrelease", "sync/atomic.StoreUint32"], unfollowed := true, recurses := true, apart := false, narrowed := true }
def IsaBeginsUptoSaid : Prop := isaBeginsUptoRow.holds Tryz.pinned (OpenSpec.upto isaBeginsSpec)

/-- 'sallyportlaw19.IsaCounts', WHERE WHAT IT READS IS OF BULK AT MOST 1048576: true; the input reads as it did. -/
def isaCountsUptoRow : OpenClaim := { program := "ytemkfjnmaljmeaagreat", sum := "8d5400fa6fda2b4f9ffd9f92e2fc5a337cc51103151e6943493fe1cf1e0ed814", func := "sallyport/sallyportlaw19.IsaCounts", spec := "isaCounts", inPlace := ["sync/atomic.AddInt64", "sync/atomic.StoreUint64", "sync/atomic.LoadUint64", "sync/atomic.LoadUint32", "(*internal/sync.Mutex).Lock", "internal/race.Disable", "sync/atomic.CompareAndSwapInt32", "internal/race.Enable", "internal/race.Acquire", "(*internal/sync.Mutex).lockSlow", "internal/sync.runtime_canSpin", "internal/sync.runtime_doSpin", "internal/sync.throw", "internal/sync.runtime_nanotime", "internal/sync.runtime_SemacquireMutex", "sync/atomic.AddInt32", "(*internal/sync.Mutex).Unlock", "internal/race.ReleaseMerge", "(*internal/sync.Mutex).unlockSlow", "internal/sync.fatal", "internal/sync.runtime_Semrelease", "sync/atomic.StoreUint32"], unfollowed := true, recurses := true, apart := false, narrowed := true }
def IsaCountsUptoSaid : Prop := isaCountsUptoRow.holds Tryz.pinned (OpenSpec.upto isaCountsSpec)

/-- 'sallyportlaw19.IsaTimes', WHERE WHAT IT READS IS OF BULK AT MOST 1048576: true; the input reads as it did. -/
def isaTimesUptoRow : OpenClaim := { program := "ytemkfjnmaljmeaagreat", sum := "8d5400fa6fda2b4f9ffd9f92e2fc5a337cc51103151e6943493fe1cf1e0ed814", func := "sallyport/sallyportlaw19.IsaTimes", spec := "isaTimes", inPlace := ["sync/atomic.AddInt64", "sync/atomic.StoreUint64", "sync/atomic.LoadUint64", "sync/atomic.LoadUint32", "(*internal/sync.Mutex).Lock", "internal/race.Disable", "sync/atomic.CompareAndSwapInt32", "internal/race.Enable", "internal/race.Acquire", "(*internal/sync.Mutex).lockSlow", "internal/sync.runtime_canSpin", "internal/sync.runtime_doSpin", "internal/sync.throw", "internal/sync.runtime_nanotime", "internal/sync.runtime_SemacquireMutex", "sync/atomic.AddInt32", "(*internal/sync.Mutex).Unlock", "internal/race.ReleaseMerge", "(*internal/sync.Mutex).unlockSlow", "internal/sync.fatal", "internal/sync.runtime_Semrelease", "sync/atomic.StoreUint32"], unfollowed := true, recurses := true, apart := false, narrowed := true }
def IsaTimesUptoSaid : Prop := isaTimesUptoRow.holds Tryz.pinned (OpenSpec.upto isaTimesSpec)

/-- 'sallyportlaw19.IsaPlays', WHERE WHAT IT READS IS OF BULK AT MOST 1048576: true; the input reads as it did. -/
def isaPlaysUptoRow : OpenClaim := { program := "ytemkfjnmaljmeaagreat", sum := "8d5400fa6fda2b4f9ffd9f92e2fc5a337cc51103151e6943493fe1cf1e0ed814", func := "sallyport/sallyportlaw19.IsaPlays", spec := "isaPlays", inPlace := ["sync/atomic.AddInt64", "sync/atomic.StoreUint64", "sync/atomic.LoadUint64", "sync/atomic.LoadUint32", "(*internal/sync.Mutex).Lock", "internal/race.Disable", "sync/atomic.CompareAndSwapInt32", "internal/race.Enable", "internal/race.Acquire", "(*internal/sync.Mutex).lockSlow", "internal/sync.runtime_canSpin", "internal/sync.runtime_doSpin", "internal/sync.throw", "internal/sync.runtime_nanotime", "internal/sync.runtime_SemacquireMutex", "sync/atomic.AddInt32", "(*internal/sync.Mutex).Unlock", "internal/race.ReleaseMerge", "(*internal/sync.Mutex).unlockSlow", "internal/sync.fatal", "internal/sync.runtime_Semrelease", "sync/atomic.StoreUint32"], unfollowed := true, recurses := true, apart := false, narrowed := true }
def IsaPlaysUptoSaid : Prop := isaPlaysUptoRow.holds Tryz.pinned (OpenSpec.upto isaPlaysSpec)

/-- 'sallyportlaw23.AuditSame', WHERE WHAT IT READS IS OF BULK AT MOST 1048576: true; the input reads as it did. -/
def auditSameUptoRow : OpenClaim := { program := "ytemkfjnmaljmeaagreat", sum := "8d5400fa6fda2b4f9ffd9f92e2fc5a337cc51103151e6943493fe1cf1e0ed814", func := "sallyport/sallyportlaw23.AuditSame", spec := "auditSame", inPlace := ["sync/atomic.LoadUint64", "sync/atomic.StoreUint64", "sync/atomic.LoadInt64", "sync/atomic.StoreInt64", "sync/atomic.AddInt64", "sync/atomic.LoadUint32", "(*internal/sync.Mutex).Lock", "internal/race.Disable", "sync/atomic.CompareAndSwapInt32", "internal/race.Enable", "internal/race.Acquire", "(*internal/sync.Mutex).lockSlow", "internal/sync.runtime_canSpin", "internal/sync.runtime_doSpin", "internal/sync.throw", "internal/sync.runtime_nanotime", "internal/sync.runtime_SemacquireMutex", "sync/atomic.AddInt32", "(*internal/sync.Mutex).Unlock", "internal/race.ReleaseMerge", "(*internal/sync.Mutex).unlockSlow", "internal/sync.fatal", "internal/sync.runtime_Semrelease", "sync/atomic.StoreUint32"], unfollowed := true, recurses := true, apart := false, narrowed := true }
def AuditSameUptoSaid : Prop := auditSameUptoRow.holds Tryz.pinned (OpenSpec.upto auditSameSpec)

/-- 'sallyportlaw19.IsaRuns', WHERE WHAT IT READS IS OF BULK AT MOST 1048576: true; the input reads as it did. -/
def isaRunsUptoRow : OpenClaim := { program := "ytemkfjnmaljmeaagreat", sum := "8d5400fa6fda2b4f9ffd9f92e2fc5a337cc51103151e6943493fe1cf1e0ed814", func := "sallyport/sallyportlaw19.IsaRuns", spec := "isaRuns", inPlace := ["sync/atomic.AddInt64", "sync/atomic.StoreUint64", "sync/atomic.LoadUint64", "sync/atomic.LoadUint32", "(*internal/sync.Mutex).Lock", "internal/race.Disable", "sync/atomic.CompareAndSwapInt32", "internal/race.Enable", "internal/race.Acquire", "(*internal/sync.Mutex).lockSlow", "internal/sync.runtime_canSpin", "internal/sync.runtime_doSpin", "internal/sync.throw", "internal/sync.runtime_nanotime", "internal/sync.runtime_SemacquireMutex", "sync/atomic.AddInt32", "(*internal/sync.Mutex).Unlock", "internal/race.ReleaseMerge", "(*internal/sync.Mutex).unlockSlow", "internal/sync.fatal", "internal/sync.runtime_Semrelease", "sync/atomic.StoreUint32", "sync/atomic.LoadInt64", "sync/atomic.StoreInt64"], unfollowed := true, recurses := true, apart := false, narrowed := true }
def IsaRunsUptoSaid : Prop := isaRunsUptoRow.holds Tryz.pinned (OpenSpec.upto isaRunsSpec)

/-- 'sallyportlaw27.SoloTells', WHERE WHAT IT READS IS OF BULK AT MOST 1048576: true; the input reads as it did. -/
def soloTellsUptoRow : OpenClaim := { program := "ytemkfjnmaljmeaagreat", sum := "8d5400fa6fda2b4f9ffd9f92e2fc5a337cc51103151e6943493fe1cf1e0ed814", func := "sallyport/sallyportlaw27.SoloTells", spec := "soloTells", inPlace := ["sync/atomic.AddInt64", "sync/atomic.StoreUint64", "sync/atomic.LoadUint64", "sync/atomic.LoadUint32", "(*internal/sync.Mutex).Lock", "internal/race.Disable", "sync/atomic.CompareAndSwapInt32", "internal/race.Enable", "internal/race.Acquire", "(*internal/sync.Mutex).lockSlow", "internal/sync.runtime_canSpin", "internal/sync.runtime_doSpin", "internal/sync.throw", "internal/sync.runtime_nanotime", "internal/sync.runtime_SemacquireMutex", "sync/atomic.AddInt32", "(*internal/sync.Mutex).Unlock", "internal/race.ReleaseMerge", "(*internal/sync.Mutex).unlockSlow", "internal/sync.fatal", "internal/sync.runtime_Semrelease", "sync/atomic.StoreUint32"], unfollowed := true, recurses := true, apart := false, narrowed := true }
def SoloTellsUptoSaid : Prop := soloTellsUptoRow.holds Tryz.pinned (OpenSpec.upto soloTellsSpec)

/-- 'sallyportlaw27.SoloParts', WHERE WHAT IT READS IS OF BULK AT MOST 1048576: true; the input reads as it did. -/
def soloPartsUptoRow : OpenClaim := { program := "ytemkfjnmaljmeaagreat", sum := "8d5400fa6fda2b4f9ffd9f92e2fc5a337cc51103151e6943493fe1cf1e0ed814", func := "sallyport/sallyportlaw27.SoloParts", spec := "soloParts", inPlace := ["sync/atomic.AddInt64", "sync/atomic.StoreUint64", "sync/atomic.LoadUint64", "sync/atomic.LoadUint32", "(*internal/sync.Mutex).Lock", "internal/race.Disable", "sync/atomic.CompareAndSwapInt32", "internal/race.Enable", "internal/race.Acquire", "(*internal/sync.Mutex).lockSlow", "internal/sync.runtime_canSpin", "internal/sync.runtime_doSpin", "internal/sync.throw", "internal/sync.runtime_nanotime", "internal/sync.runtime_SemacquireMutex", "sync/atomic.AddInt32", "(*internal/sync.Mutex).Unlock", "internal/race.ReleaseMerge", "(*internal/sync.Mutex).unlockSlow", "internal/sync.fatal", "internal/sync.runtime_Semrelease", "sync/atomic.StoreUint32"], unfollowed := true, recurses := true, apart := false, narrowed := true }
def SoloPartsUptoSaid : Prop := soloPartsUptoRow.holds Tryz.pinned (OpenSpec.upto soloPartsSpec)

/-- 'sallyportlaw27.SoloReads', WHERE WHAT IT READS IS OF BULK AT MOST 1048576: true; the input reads as it did. -/
def soloReadsUptoRow : OpenClaim := { program := "ytemkfjnmaljmeaagreat", sum := "8d5400fa6fda2b4f9ffd9f92e2fc5a337cc51103151e6943493fe1cf1e0ed814", func := "sallyport/sallyportlaw27.SoloReads", spec := "soloReads", inPlace := ["sync/atomic.AddInt64", "sync/atomic.StoreUint64", "sync/atomic.LoadUint64", "sync/atomic.LoadUint32", "(*internal/sync.Mutex).Lock", "internal/race.Disable", "sync/atomic.CompareAndSwapInt32", "internal/race.Enable", "internal/race.Acquire", "(*internal/sync.Mutex).lockSlow", "internal/sync.runtime_canSpin", "internal/sync.runtime_doSpin", "internal/sync.throw", "internal/sync.runtime_nanotime", "internal/sync.runtime_SemacquireMutex", "sync/atomic.AddInt32", "(*internal/sync.Mutex).Unlock", "internal/race.ReleaseMerge", "(*internal/sync.Mutex).unlockSlow", "internal/sync.fatal", "internal/sync.runtime_Semrelease", "sync/atomic.StoreUint32"], unfollowed := true, recurses := true, apart := false, narrowed := true }
def SoloReadsUptoSaid : Prop := soloReadsUptoRow.holds Tryz.pinned (OpenSpec.upto soloReadsSpec)

/-- 'sallyportlaw27.SoloSameness', WHERE WHAT IT READS IS OF BULK AT MOST 1048576: true; the input reads as it did. -/
def soloSamenessUptoRow : OpenClaim := { program := "ytemkfjnmaljmeaagreat", sum := "8d5400fa6fda2b4f9ffd9f92e2fc5a337cc51103151e6943493fe1cf1e0ed814", func := "sallyport/sallyportlaw27.SoloSameness", spec := "soloSameness", inPlace := ["sync/atomic.AddInt64", "sync/atomic.StoreUint64", "sync/atomic.LoadUint64", "sync/atomic.LoadUint32", "(*internal/sync.Mutex).Lock", "internal/race.Disable", "sync/atomic.CompareAndSwapInt32", "internal/race.Enable", "internal/race.Acquire", "(*internal/sync.Mutex).lockSlow", "internal/sync.runtime_canSpin", "internal/sync.runtime_doSpin", "internal/sync.throw", "internal/sync.runtime_nanotime", "internal/sync.runtime_SemacquireMutex", "sync/atomic.AddInt32", "(*internal/sync.Mutex).Unlock", "internal/race.ReleaseMerge", "(*internal/sync.Mutex).unlockSlow", "internal/sync.fatal", "internal/sync.runtime_Semrelease", "sync/atomic.StoreUint32"], unfollowed := true, recurses := true, apart := false, narrowed := true }
def SoloSamenessUptoSaid : Prop := soloSamenessUptoRow.holds Tryz.pinned (OpenSpec.upto soloSamenessSpec)

end Rows
end Go.Proofs.YtemkfjnmaljmeaaGreat
