/-
  No cell of these rows narrows 'for every input' (looked for: loops, veiled, ifaces, maps, wideKeys, modest, calm, conditions, laid).
  DERIVED. THE GIVEN ROWS OF THIS SEAT. 12 by the template 'for every input the law returns true; each argument reads behind the call as it read before'; 0 by the template 'total and deterministic' (their statements: YtdgombgcjeelpaaGreatTotals.lean).
  GIVEN WITH THE SEED: the statements are not yours to turn. If you find one false, say at which input.
  Laid BY PROGRAM, IN A SANDBOX (cutbox-rows.mjs): the forced cells as the released guide's own fill.sh prints them over the translation e94f520b5515db86… (all of the seat's roots in one cut). By AI agents, Wed Nov 11 2026. No macro, syntax, notation, axiom, sorry.
-/
import Derived.Test.YtdgombgcjeelpaaGreatChecked
import GoSem.Claim
import GoSem.ClaimJoined
import GoSem.ClaimMapViews
import Derived.JoinedTies
import Derived.KernelRfl
namespace Go.Proofs.YtdgombgcjeelpaaGreat
/- THE CELL 'sum', in the pinned program and in every row, IS THE sha256 OF THE DUMP (.gsa) THAT YtdgombgcjeelpaaGreatProg.lean LOADS. Nothing in Lean hashes anything: it is a label: what it is worth is what the hold of that sum in a sandbox is worth. -/
noncomputable def Tryz.pinned : Pinned := { name := "ytdgombgcjeelpaagreat", sum := "e94f520b5515db86832de5664bc610aa1beefc8a6a263f36407bee73fd885281", checked := Tryz.checked }
namespace Rows
def none {H : Type} : Left H := { results := [], args := [] }

/-- 'vinculumlaw23.EngineOps': WHATEVER THE INPUT: true; the input reads as it did. -/
def engineOpsSpec : ChangeSpec := { name := "engineOps", fn := fun _ => fun
  | [d1, d2, d3] => { results := [.lit (.bool true)], args := [d1, d2, d3] }
  | _ => none }
def engineOpsRow : OpenClaim := { program := "ytdgombgcjeelpaagreat", sum := "e94f520b5515db86832de5664bc610aa1beefc8a6a263f36407bee73fd885281", func := "vinculum/vinculumlaw23.EngineOps", spec := "engineOps", inPlace := ["sync/atomic.LoadUint64", "sync/atomic.AddInt64", "sync/atomic.CompareAndSwapUint64", "sync/atomic.StoreUint64", "sync/atomic.LoadUint32", "(*internal/sync.Mutex).Lock", "internal/race.Disable", "sync/atomic.CompareAndSwapInt32", "internal/race.Enable", "internal/race.Acquire", "(*internal/sync.Mutex).lockSlow", "internal/sync.runtime_canSpin", "internal/sync.runtime_doSpin", "internal/sync.throw", "internal/sync.runtime_nanotime", "internal/sync.runtime_SemacquireMutex", "sync/atomic.AddInt32", "(*internal/sync.Mutex).Unlock", "internal/race.ReleaseMerge", "(*internal/sync.Mutex).unlockSlow", "internal/sync.fatal", "internal/sync.runtime_Semrelease", "sync/atomic.StoreUint32", "sync/atomic.LoadInt64"], unfollowed := true, recurses := true, apart := false }
def EngineOpsSaid : Prop := engineOpsRow.holds Tryz.pinned (OpenSpec.ofChange engineOpsSpec)

/-- ITS FALSE NEIGHBOUR: 'it returns false'. Refute it at one input. -/
def engineOpsWrong : ChangeSpec := { name := "engineOps", fn := fun _ => fun
  | [d1, d2, d3] => { results := [.lit (.bool false)], args := [d1, d2, d3] }
  | _ => none }
def EngineOpsWrongFalsely : Prop := engineOpsRow.holds Tryz.pinned (OpenSpec.ofChange engineOpsWrong)

/-- 'vinculumlaw24.RunBounds': WHATEVER THE INPUT: true; the input reads as it did. -/
def runBoundsSpec : ChangeSpec := { name := "runBounds", fn := fun _ => fun
  | [d1, d2] => { results := [.lit (.bool true)], args := [d1, d2] }
  | _ => none }
def runBoundsRow : OpenClaim := { program := "ytdgombgcjeelpaagreat", sum := "e94f520b5515db86832de5664bc610aa1beefc8a6a263f36407bee73fd885281", func := "vinculum/vinculumlaw24.RunBounds", spec := "runBounds", inPlace := ["sync/atomic.AddInt64", "sync/atomic.LoadUint64", "sync/atomic.CompareAndSwapUint64", "sync/atomic.StoreUint64", "sync/atomic.LoadUint32", "(*internal/sync.Mutex).Lock", "internal/race.Disable", "sync/atomic.CompareAndSwapInt32", "internal/race.Enable", "internal/race.Acquire", "(*internal/sync.Mutex).lockSlow", "internal/sync.runtime_canSpin", "internal/sync.runtime_doSpin", "internal/sync.throw", "internal/sync.runtime_nanotime", "internal/sync.runtime_SemacquireMutex", "sync/atomic.AddInt32", "(*internal/sync.Mutex).Unlock", "internal/race.ReleaseMerge", "(*internal/sync.Mutex).unlockSlow", "internal/sync.fatal", "internal/sync.runtime_Semrelease", "sync/atomic.StoreUint32", "sync/atomic.LoadInt64"], unfollowed := true, recurses := true, apart := false }
def RunBoundsSaid : Prop := runBoundsRow.holds Tryz.pinned (OpenSpec.ofChange runBoundsSpec)

/-- ITS FALSE NEIGHBOUR: 'it returns false'. Refute it at one input. -/
def runBoundsWrong : ChangeSpec := { name := "runBounds", fn := fun _ => fun
  | [d1, d2] => { results := [.lit (.bool false)], args := [d1, d2] }
  | _ => none }
def RunBoundsWrongFalsely : Prop := runBoundsRow.holds Tryz.pinned (OpenSpec.ofChange runBoundsWrong)

/-- 'vinculumlaw23.EngineBounds': WHATEVER THE INPUT: true; the input reads as it did. -/
def engineBoundsSpec : ChangeSpec := { name := "engineBounds", fn := fun _ => fun
  | [d1, d2] => { results := [.lit (.bool true)], args := [d1, d2] }
  | _ => none }
def engineBoundsRow : OpenClaim := { program := "ytdgombgcjeelpaagreat", sum := "e94f520b5515db86832de5664bc610aa1beefc8a6a263f36407bee73fd885281", func := "vinculum/vinculumlaw23.EngineBounds", spec := "engineBounds", inPlace := ["sync/atomic.LoadUint64", "sync/atomic.LoadUint32", "(*internal/sync.Mutex).Lock", "internal/race.Disable", "sync/atomic.CompareAndSwapInt32", "internal/race.Enable", "internal/race.Acquire", "(*internal/sync.Mutex).lockSlow", "internal/sync.runtime_canSpin", "internal/sync.runtime_doSpin", "internal/sync.throw", "internal/sync.runtime_nanotime", "internal/sync.runtime_SemacquireMutex", "sync/atomic.AddInt32", "(*internal/sync.Mutex).Unlock", "internal/race.ReleaseMerge", "(*internal/sync.Mutex).unlockSlow", "internal/sync.fatal", "internal/sync.runtime_Semrelease", "sync/atomic.StoreUint32", "sync/atomic.AddInt64", "sync/atomic.CompareAndSwapUint64", "sync/atomic.StoreUint64", "sync/atomic.LoadInt64"], unfollowed := true, recurses := true, apart := false }
def EngineBoundsSaid : Prop := engineBoundsRow.holds Tryz.pinned (OpenSpec.ofChange engineBoundsSpec)

/-- ITS FALSE NEIGHBOUR: 'it returns false'. Refute it at one input. -/
def engineBoundsWrong : ChangeSpec := { name := "engineBounds", fn := fun _ => fun
  | [d1, d2] => { results := [.lit (.bool false)], args := [d1, d2] }
  | _ => none }
def EngineBoundsWrongFalsely : Prop := engineBoundsRow.holds Tryz.pinned (OpenSpec.ofChange engineBoundsWrong)

/-- 'vinculumlaw24.RunPhantom': WHATEVER THE INPUT: true; the input reads as it did. -/
def runPhantomSpec : ChangeSpec := { name := "runPhantom", fn := fun _ => fun
  | [d1, d2, d3, d4] => { results := [.lit (.bool true)], args := [d1, d2, d3, d4] }
  | _ => none }
def runPhantomRow : OpenClaim := { program := "ytdgombgcjeelpaagreat", sum := "e94f520b5515db86832de5664bc610aa1beefc8a6a263f36407bee73fd885281", func := "vinculum/vinculumlaw24.RunPhantom", spec := "runPhantom", inPlace := ["sync/atomic.AddInt64", "sync/atomic.LoadUint64", "sync/atomic.CompareAndSwapUint64", "sync/atomic.StoreUint64", "sync/atomic.LoadUint32", "(*internal/sync.Mutex).Lock", "internal/race.Disable", "sync/atomic.CompareAndSwapInt32", "internal/race.Enable", "internal/race.Acquire", "(*internal/sync.Mutex).lockSlow", "internal/sync.runtime_canSpin", "internal/sync.runtime_doSpin", "internal/sync.throw", "internal/sync.runtime_nanotime", "internal/sync.runtime_SemacquireMutex", "sync/atomic.AddInt32", "(*internal/sync.Mutex).Unlock", "internal/race.ReleaseMerge", "(*internal/sync.Mutex).unlockSlow", "internal/sync.fatal", "internal/sync.runtime_Semrelease", "sync/atomic.StoreUint32", "sync/atomic.LoadInt64"], unfollowed := true, recurses := true, apart := false }
def RunPhantomSaid : Prop := runPhantomRow.holds Tryz.pinned (OpenSpec.ofChange runPhantomSpec)

/-- ITS FALSE NEIGHBOUR: 'it returns false'. Refute it at one input. -/
def runPhantomWrong : ChangeSpec := { name := "runPhantom", fn := fun _ => fun
  | [d1, d2, d3, d4] => { results := [.lit (.bool false)], args := [d1, d2, d3, d4] }
  | _ => none }
def RunPhantomWrongFalsely : Prop := runPhantomRow.holds Tryz.pinned (OpenSpec.ofChange runPhantomWrong)

/-- 'vinculumlaw24.RunSkew': WHATEVER THE INPUT: true; the input reads as it did. -/
def runSkewSpec : ChangeSpec := { name := "runSkew", fn := fun _ => fun
  | [d1, d2, d3] => { results := [.lit (.bool true)], args := [d1, d2, d3] }
  | _ => none }
def runSkewRow : OpenClaim := { program := "ytdgombgcjeelpaagreat", sum := "e94f520b5515db86832de5664bc610aa1beefc8a6a263f36407bee73fd885281", func := "vinculum/vinculumlaw24.RunSkew", spec := "runSkew", inPlace := ["sync/atomic.AddInt64", "sync/atomic.LoadUint64", "sync/atomic.CompareAndSwapUint64", "sync/atomic.StoreUint64", "sync/atomic.LoadUint32", "(*internal/sync.Mutex).Lock", "internal/race.Disable", "sync/atomic.CompareAndSwapInt32", "internal/race.Enable", "internal/race.Acquire", "(*internal/sync.Mutex).lockSlow", "internal/sync.runtime_canSpin", "internal/sync.runtime_doSpin", "internal/sync.throw", "internal/sync.runtime_nanotime", "internal/sync.runtime_SemacquireMutex", "sync/atomic.AddInt32", "(*internal/sync.Mutex).Unlock", "internal/race.ReleaseMerge", "(*internal/sync.Mutex).unlockSlow", "internal/sync.fatal", "internal/sync.runtime_Semrelease", "sync/atomic.StoreUint32", "sync/atomic.LoadInt64"], unfollowed := true, recurses := true, apart := false }
def RunSkewSaid : Prop := runSkewRow.holds Tryz.pinned (OpenSpec.ofChange runSkewSpec)

/-- ITS FALSE NEIGHBOUR: 'it returns false'. Refute it at one input. -/
def runSkewWrong : ChangeSpec := { name := "runSkew", fn := fun _ => fun
  | [d1, d2, d3] => { results := [.lit (.bool false)], args := [d1, d2, d3] }
  | _ => none }
def RunSkewWrongFalsely : Prop := runSkewRow.holds Tryz.pinned (OpenSpec.ofChange runSkewWrong)

/-- 'vinculumlaw24.RunOver': WHATEVER THE INPUT: true; the input reads as it did. -/
def runOverSpec : ChangeSpec := { name := "runOver", fn := fun _ => fun
  | [d1, d2] => { results := [.lit (.bool true)], args := [d1, d2] }
  | _ => none }
def runOverRow : OpenClaim := { program := "ytdgombgcjeelpaagreat", sum := "e94f520b5515db86832de5664bc610aa1beefc8a6a263f36407bee73fd885281", func := "vinculum/vinculumlaw24.RunOver", spec := "runOver", inPlace := ["sync/atomic.AddInt64", "sync/atomic.LoadUint64", "sync/atomic.CompareAndSwapUint64", "sync/atomic.StoreUint64", "sync/atomic.LoadUint32", "(*internal/sync.Mutex).Lock", "internal/race.Disable", "sync/atomic.CompareAndSwapInt32", "internal/race.Enable", "internal/race.Acquire", "(*internal/sync.Mutex).lockSlow", "internal/sync.runtime_canSpin", "internal/sync.runtime_doSpin", "internal/sync.throw", "internal/sync.runtime_nanotime", "internal/sync.runtime_SemacquireMutex", "sync/atomic.AddInt32", "(*internal/sync.Mutex).Unlock", "internal/race.ReleaseMerge", "(*internal/sync.Mutex).unlockSlow", "internal/sync.fatal", "internal/sync.runtime_Semrelease", "sync/atomic.StoreUint32", "sync/atomic.LoadInt64"], unfollowed := true, recurses := true, apart := false }
def RunOverSaid : Prop := runOverRow.holds Tryz.pinned (OpenSpec.ofChange runOverSpec)

/-- ITS FALSE NEIGHBOUR: 'it returns false'. Refute it at one input. -/
def runOverWrong : ChangeSpec := { name := "runOver", fn := fun _ => fun
  | [d1, d2] => { results := [.lit (.bool false)], args := [d1, d2] }
  | _ => none }
def RunOverWrongFalsely : Prop := runOverRow.holds Tryz.pinned (OpenSpec.ofChange runOverWrong)

/-- 'vinculumlaw24.RunBonds': WHATEVER THE INPUT: true; the input reads as it did. -/
def runBondsSpec : ChangeSpec := { name := "runBonds", fn := fun _ => fun
  | [d1, d2, d3, d4, d5] => { results := [.lit (.bool true)], args := [d1, d2, d3, d4, d5] }
  | _ => none }
def runBondsRow : OpenClaim := { program := "ytdgombgcjeelpaagreat", sum := "e94f520b5515db86832de5664bc610aa1beefc8a6a263f36407bee73fd885281", func := "vinculum/vinculumlaw24.RunBonds", spec := "runBonds", inPlace := ["sync/atomic.AddInt64", "sync/atomic.LoadUint64", "sync/atomic.CompareAndSwapUint64", "sync/atomic.StoreUint64", "sync/atomic.LoadUint32", "(*internal/sync.Mutex).Lock", "internal/race.Disable", "sync/atomic.CompareAndSwapInt32", "internal/race.Enable", "internal/race.Acquire", "(*internal/sync.Mutex).lockSlow", "internal/sync.runtime_canSpin", "internal/sync.runtime_doSpin", "internal/sync.throw", "internal/sync.runtime_nanotime", "internal/sync.runtime_SemacquireMutex", "sync/atomic.AddInt32", "(*internal/sync.Mutex).Unlock", "internal/race.ReleaseMerge", "(*internal/sync.Mutex).unlockSlow", "internal/sync.fatal", "internal/sync.runtime_Semrelease", "sync/atomic.StoreUint32", "sync/atomic.LoadInt64"], unfollowed := true, recurses := true, apart := false }
def RunBondsSaid : Prop := runBondsRow.holds Tryz.pinned (OpenSpec.ofChange runBondsSpec)

/-- ITS FALSE NEIGHBOUR: 'it returns false'. Refute it at one input. -/
def runBondsWrong : ChangeSpec := { name := "runBonds", fn := fun _ => fun
  | [d1, d2, d3, d4, d5] => { results := [.lit (.bool false)], args := [d1, d2, d3, d4, d5] }
  | _ => none }
def RunBondsWrongFalsely : Prop := runBondsRow.holds Tryz.pinned (OpenSpec.ofChange runBondsWrong)

/-- 'vinculumlaw24.RunPrep': WHATEVER THE INPUT: true; the input reads as it did. -/
def runPrepSpec : ChangeSpec := { name := "runPrep", fn := fun _ => fun
  | [d1, d2] => { results := [.lit (.bool true)], args := [d1, d2] }
  | _ => none }
def runPrepRow : OpenClaim := { program := "ytdgombgcjeelpaagreat", sum := "e94f520b5515db86832de5664bc610aa1beefc8a6a263f36407bee73fd885281", func := "vinculum/vinculumlaw24.RunPrep", spec := "runPrep", inPlace := ["sync/atomic.AddInt64", "sync/atomic.LoadUint64", "sync/atomic.CompareAndSwapUint64", "sync/atomic.StoreUint64", "sync/atomic.LoadUint32", "(*internal/sync.Mutex).Lock", "internal/race.Disable", "sync/atomic.CompareAndSwapInt32", "internal/race.Enable", "internal/race.Acquire", "(*internal/sync.Mutex).lockSlow", "internal/sync.runtime_canSpin", "internal/sync.runtime_doSpin", "internal/sync.throw", "internal/sync.runtime_nanotime", "internal/sync.runtime_SemacquireMutex", "sync/atomic.AddInt32", "(*internal/sync.Mutex).Unlock", "internal/race.ReleaseMerge", "(*internal/sync.Mutex).unlockSlow", "internal/sync.fatal", "internal/sync.runtime_Semrelease", "sync/atomic.StoreUint32", "sync/atomic.LoadInt64"], unfollowed := true, recurses := true, apart := false }
def RunPrepSaid : Prop := runPrepRow.holds Tryz.pinned (OpenSpec.ofChange runPrepSpec)

/-- ITS FALSE NEIGHBOUR: 'it returns false'. Refute it at one input. -/
def runPrepWrong : ChangeSpec := { name := "runPrep", fn := fun _ => fun
  | [d1, d2] => { results := [.lit (.bool false)], args := [d1, d2] }
  | _ => none }
def RunPrepWrongFalsely : Prop := runPrepRow.holds Tryz.pinned (OpenSpec.ofChange runPrepWrong)

/-- 'vinculumlaw24.RunPasses': WHATEVER THE INPUT: true; the input reads as it did. -/
def runPassesSpec : ChangeSpec := { name := "runPasses", fn := fun _ => fun
  | [d1, d2] => { results := [.lit (.bool true)], args := [d1, d2] }
  | _ => none }
def runPassesRow : OpenClaim := { program := "ytdgombgcjeelpaagreat", sum := "e94f520b5515db86832de5664bc610aa1beefc8a6a263f36407bee73fd885281", func := "vinculum/vinculumlaw24.RunPasses", spec := "runPasses", inPlace := ["sync/atomic.AddInt64", "sync/atomic.LoadUint64", "sync/atomic.CompareAndSwapUint64", "sync/atomic.StoreUint64", "sync/atomic.LoadUint32", "(*internal/sync.Mutex).Lock", "internal/race.Disable", "sync/atomic.CompareAndSwapInt32", "internal/race.Enable", "internal/race.Acquire", "(*internal/sync.Mutex).lockSlow", "internal/sync.runtime_canSpin", "internal/sync.runtime_doSpin", "internal/sync.throw", "internal/sync.runtime_nanotime", "internal/sync.runtime_SemacquireMutex", "sync/atomic.AddInt32", "(*internal/sync.Mutex).Unlock", "internal/race.ReleaseMerge", "(*internal/sync.Mutex).unlockSlow", "internal/sync.fatal", "internal/sync.runtime_Semrelease", "sync/atomic.StoreUint32", "sync/atomic.LoadInt64"], unfollowed := true, recurses := true, apart := false }
def RunPassesSaid : Prop := runPassesRow.holds Tryz.pinned (OpenSpec.ofChange runPassesSpec)

/-- ITS FALSE NEIGHBOUR: 'it returns false'. Refute it at one input. -/
def runPassesWrong : ChangeSpec := { name := "runPasses", fn := fun _ => fun
  | [d1, d2] => { results := [.lit (.bool false)], args := [d1, d2] }
  | _ => none }
def RunPassesWrongFalsely : Prop := runPassesRow.holds Tryz.pinned (OpenSpec.ofChange runPassesWrong)

/-- 'vinculumlaw24.RunFirst': WHATEVER THE INPUT: true; the input reads as it did. -/
def runFirstSpec : ChangeSpec := { name := "runFirst", fn := fun _ => fun
  | [d1, d2, d3] => { results := [.lit (.bool true)], args := [d1, d2, d3] }
  | _ => none }
def runFirstRow : OpenClaim := { program := "ytdgombgcjeelpaagreat", sum := "e94f520b5515db86832de5664bc610aa1beefc8a6a263f36407bee73fd885281", func := "vinculum/vinculumlaw24.RunFirst", spec := "runFirst", inPlace := ["sync/atomic.AddInt64", "sync/atomic.LoadUint64", "sync/atomic.CompareAndSwapUint64", "sync/atomic.StoreUint64", "sync/atomic.LoadUint32", "(*internal/sync.Mutex).Lock", "internal/race.Disable", "sync/atomic.CompareAndSwapInt32", "internal/race.Enable", "internal/race.Acquire", "(*internal/sync.Mutex).lockSlow", "internal/sync.runtime_canSpin", "internal/sync.runtime_doSpin", "internal/sync.throw", "internal/sync.runtime_nanotime", "internal/sync.runtime_SemacquireMutex", "sync/atomic.AddInt32", "(*internal/sync.Mutex).Unlock", "internal/race.ReleaseMerge", "(*internal/sync.Mutex).unlockSlow", "internal/sync.fatal", "internal/sync.runtime_Semrelease", "sync/atomic.StoreUint32", "sync/atomic.LoadInt64"], unfollowed := true, recurses := true, apart := false }
def RunFirstSaid : Prop := runFirstRow.holds Tryz.pinned (OpenSpec.ofChange runFirstSpec)

/-- ITS FALSE NEIGHBOUR: 'it returns false'. Refute it at one input. -/
def runFirstWrong : ChangeSpec := { name := "runFirst", fn := fun _ => fun
  | [d1, d2, d3] => { results := [.lit (.bool false)], args := [d1, d2, d3] }
  | _ => none }
def RunFirstWrongFalsely : Prop := runFirstRow.holds Tryz.pinned (OpenSpec.ofChange runFirstWrong)

/-- 'vinculumlaw24.RunFull': WHATEVER THE INPUT: true; the input reads as it did. -/
def runFullSpec : ChangeSpec := { name := "runFull", fn := fun _ => fun
  | [d1, d2] => { results := [.lit (.bool true)], args := [d1, d2] }
  | _ => none }
def runFullRow : OpenClaim := { program := "ytdgombgcjeelpaagreat", sum := "e94f520b5515db86832de5664bc610aa1beefc8a6a263f36407bee73fd885281", func := "vinculum/vinculumlaw24.RunFull", spec := "runFull", inPlace := ["sync/atomic.AddInt64", "sync/atomic.LoadUint64", "sync/atomic.CompareAndSwapUint64", "sync/atomic.StoreUint64", "sync/atomic.LoadUint32", "(*internal/sync.Mutex).Lock", "internal/race.Disable", "sync/atomic.CompareAndSwapInt32", "internal/race.Enable", "internal/race.Acquire", "(*internal/sync.Mutex).lockSlow", "internal/sync.runtime_canSpin", "internal/sync.runtime_doSpin", "internal/sync.throw", "internal/sync.runtime_nanotime", "internal/sync.runtime_SemacquireMutex", "sync/atomic.AddInt32", "(*internal/sync.Mutex).Unlock", "internal/race.ReleaseMerge", "(*internal/sync.Mutex).unlockSlow", "internal/sync.fatal", "internal/sync.runtime_Semrelease", "sync/atomic.StoreUint32", "sync/atomic.LoadInt64"], unfollowed := true, recurses := true, apart := false }
def RunFullSaid : Prop := runFullRow.holds Tryz.pinned (OpenSpec.ofChange runFullSpec)

/-- ITS FALSE NEIGHBOUR: 'it returns false'. Refute it at one input. -/
def runFullWrong : ChangeSpec := { name := "runFull", fn := fun _ => fun
  | [d1, d2] => { results := [.lit (.bool false)], args := [d1, d2] }
  | _ => none }
def RunFullWrongFalsely : Prop := runFullRow.holds Tryz.pinned (OpenSpec.ofChange runFullWrong)

/-- 'vinculumlaw24.RunGone': WHATEVER THE INPUT: true; the input reads as it did. -/
def runGoneSpec : ChangeSpec := { name := "runGone", fn := fun _ => fun
  | [d1, d2] => { results := [.lit (.bool true)], args := [d1, d2] }
  | _ => none }
def runGoneRow : OpenClaim := { program := "ytdgombgcjeelpaagreat", sum := "e94f520b5515db86832de5664bc610aa1beefc8a6a263f36407bee73fd885281", func := "vinculum/vinculumlaw24.RunGone", spec := "runGone", inPlace := ["sync/atomic.AddInt64", "sync/atomic.LoadUint64", "sync/atomic.CompareAndSwapUint64", "sync/atomic.StoreUint64", "sync/atomic.LoadUint32", "(*internal/sync.Mutex).Lock", "internal/race.Disable", "sync/atomic.CompareAndSwapInt32", "internal/race.Enable", "internal/race.Acquire", "(*internal/sync.Mutex).lockSlow", "internal/sync.runtime_canSpin", "internal/sync.runtime_doSpin", "internal/sync.throw", "internal/sync.runtime_nanotime", "internal/sync.runtime_SemacquireMutex", "sync/atomic.AddInt32", "(*internal/sync.Mutex).Unlock", "internal/race.ReleaseMerge", "(*internal/sync.Mutex).unlockSlow", "internal/sync.fatal", "internal/sync.runtime_Semrelease", "sync/atomic.StoreUint32", "sync/atomic.LoadInt64"], unfollowed := true, recurses := true, apart := false }
def RunGoneSaid : Prop := runGoneRow.holds Tryz.pinned (OpenSpec.ofChange runGoneSpec)

/-- ITS FALSE NEIGHBOUR: 'it returns false'. Refute it at one input. -/
def runGoneWrong : ChangeSpec := { name := "runGone", fn := fun _ => fun
  | [d1, d2] => { results := [.lit (.bool false)], args := [d1, d2] }
  | _ => none }
def RunGoneWrongFalsely : Prop := runGoneRow.holds Tryz.pinned (OpenSpec.ofChange runGoneWrong)

/- THE SECOND FORM. 'bulk': how many values and letters a reading holds, each counted each time it is reached (what is shared counts as often as it is met; a slice's spare places count too). A statement '..UptoSaid' is the law's where the arguments, and the package variables that the reading takes, are together of bulk at most 1048576: NARROWER than '..Said'. Prove '..Said' where nothing that the law and all that it calls make is longer than what came in: it says more and counts as full. Else prove '..UptoSaid'. A law counts once. -/
mutual
def uptoBulk {H : Type} : DataW H → Nat
  | .lit (.string bytes) => bytes.length + 1
  | .lit _ => 1
  | .nil => 1
  | .ptr d => uptoBulk d + 1
  | .slice elems spare => uptoBulkAll elems + uptoBulkAll spare + 1
  | .agg parts => uptoBulkAll parts + 1
  | .iface _ d => uptoBulk d + 1
  | .map entries => uptoBulkEntries entries + 1
  | .held _ => 1
def uptoBulkAll {H : Type} : List (DataW H) → Nat
  | [] => 0
  | d :: r => uptoBulk d + uptoBulkAll r
def uptoBulkEntries {H : Type} : List (Lit × DataW H) → Nat
  | [] => 0
  | x :: r => uptoBulkEntry x + uptoBulkEntries r
def uptoBulkEntry {H : Type} : Lit × DataW H → Nat
  | (.string bytes, d) => bytes.length + uptoBulk d + 1
  | (_, d) => uptoBulk d + 1
 end
def uptoSmall : (H : Type) → List (DataW H) → Bool := fun _ ds => decide (uptoBulkAll ds ≤ 1048576)
def OpenSpec.upto (s : _root_.Go.ChangeSpec) : _root_.Go.OpenSpec := { _root_.Go.OpenSpec.ofChange s with cond := some uptoSmall }

/-- 'vinculumlaw23.EngineOps', WHERE WHAT IT READS IS OF BULK AT MOST 1048576: true; the input reads as it did. -/
def engineOpsUptoRow : OpenClaim := { program := "ytdgombgcjeelpaagreat", sum := "e94f520b5515db86832de5664bc610aa1beefc8a6a263f36407bee73fd885281", func := "vinculum/vinculumlaw23.EngineOps", spec := "engineOps", inPlace := ["sync/atomic.LoadUint64", "sync/atomic.AddInt64", "sync/atomic.CompareAndSwapUint64", "sync/atomic.StoreUint64", "sync/atomic.LoadUint32", "(*internal/sync.Mutex).Lock", "internal/race.Disable", "sync/atomic.CompareAndSwapInt32", "internal/race.Enable", "internal/race.Acquire", "(*internal/sync.Mutex).lockSlow", "internal/sync.runtime_canSpin", "internal/sync.runtime_doSpin", "internal/sync.throw", "internal/sync.runtime_nanotime", "internal/sync.runtime_SemacquireMutex", "sync/atomic.AddInt32", "(*internal/sync.Mutex).Unlock", "internal/race.ReleaseMerge", "(*internal/sync.Mutex).unlockSlow", "internal/sync.fatal", "internal/sync.runtime_Semrelease", "sync/atomic.StoreUint32", "sync/atomic.LoadInt64"], unfollowed := true, recurses := true, apart := false, narrowed := true }
def EngineOpsUptoSaid : Prop := engineOpsUptoRow.holds Tryz.pinned (OpenSpec.upto engineOpsSpec)

/-- 'vinculumlaw24.RunBounds', WHERE WHAT IT READS IS OF BULK AT MOST 1048576: true; the input reads as it did. -/
def runBoundsUptoRow : OpenClaim := { program := "ytdgombgcjeelpaagreat", sum := "e94f520b5515db86832de5664bc610aa1beefc8a6a263f36407bee73fd885281", func := "vinculum/vinculumlaw24.RunBounds", spec := "runBounds", inPlace := ["sync/atomic.AddInt64", "sync/atomic.LoadUint64", "sync/atomic.CompareAndSwapUint64", "sync/atomic.StoreUint64", "sync/atomic.LoadUint32", "(*internal/sync.Mutex).Lock", "internal/race.Disable", "sync/atomic.CompareAndSwapInt32", "internal/race.Enable", "internal/race.Acquire", "(*internal/sync.Mutex).lockSlow", "internal/sync.runtime_canSpin", "internal/sync.runtime_doSpin", "internal/sync.throw", "internal/sync.runtime_nanotime", "internal/sync.runtime_SemacquireMutex", "sync/atomic.AddInt32", "(*internal/sync.Mutex).Unlock", "internal/race.ReleaseMerge", "(*internal/sync.Mutex).unlockSlow", "internal/sync.fatal", "internal/sync.runtime_Semrelease", "sync/atomic.StoreUint32", "sync/atomic.LoadInt64"], unfollowed := true, recurses := true, apart := false, narrowed := true }
def RunBoundsUptoSaid : Prop := runBoundsUptoRow.holds Tryz.pinned (OpenSpec.upto runBoundsSpec)

/-- 'vinculumlaw23.EngineBounds', WHERE WHAT IT READS IS OF BULK AT MOST 1048576: true; the input reads as it did. -/
def engineBoundsUptoRow : OpenClaim := { program := "ytdgombgcjeelpaagreat", sum := "e94f520b5515db86832de5664bc610aa1beefc8a6a263f36407bee73fd885281", func := "vinculum/vinculumlaw23.EngineBounds", spec := "engineBounds", inPlace := ["sync/atomic.LoadUint64", "sync/atomic.LoadUint32", "(*internal/sync.Mutex).Lock", "internal/race.Disable", "sync/atomic.CompareAndSwapInt32", "internal/race.Enable", "internal/race.Acquire", "(*internal/sync.Mutex).lockSlow", "internal/sync.runtime_canSpin", "internal/sync.runtime_doSpin", "internal/sync.throw", "internal/sync.runtime_nanotime", "internal/sync.runtime_SemacquireMutex", "sync/atomic.AddInt32", "(*internal/sync.Mutex).Unlock", "internal/race.ReleaseMerge", "(*internal/sync.Mutex).unlockSlow", "internal/sync.fatal", "internal/sync.runtime_Semrelease", "sync/atomic.StoreUint32", "sync/atomic.AddInt64", "sync/atomic.CompareAndSwapUint64", "sync/atomic.StoreUint64", "sync/atomic.LoadInt64"], unfollowed := true, recurses := true, apart := false, narrowed := true }
def EngineBoundsUptoSaid : Prop := engineBoundsUptoRow.holds Tryz.pinned (OpenSpec.upto engineBoundsSpec)

/-- 'vinculumlaw24.RunPhantom', WHERE WHAT IT READS IS OF BULK AT MOST 1048576: true; the input reads as it did. -/
def runPhantomUptoRow : OpenClaim := { program := "ytdgombgcjeelpaagreat", sum := "e94f520b5515db86832de5664bc610aa1beefc8a6a263f36407bee73fd885281", func := "vinculum/vinculumlaw24.RunPhantom", spec := "runPhantom", inPlace := ["sync/atomic.AddInt64", "sync/atomic.LoadUint64", "sync/atomic.CompareAndSwapUint64", "sync/atomic.StoreUint64", "sync/atomic.LoadUint32", "(*internal/sync.Mutex).Lock", "internal/race.Disable", "sync/atomic.CompareAndSwapInt32", "internal/race.Enable", "internal/race.Acquire", "(*internal/sync.Mutex).lockSlow", "internal/sync.runtime_canSpin", "internal/sync.runtime_doSpin", "internal/sync.throw", "internal/sync.runtime_nanotime", "internal/sync.runtime_SemacquireMutex", "sync/atomic.AddInt32", "(*internal/sync.Mutex).Unlock", "internal/race.ReleaseMerge", "(*internal/sync.Mutex).unlockSlow", "internal/sync.fatal", "internal/sync.runtime_Semrelease", "sync/atomic.StoreUint32", "sync/atomic.LoadInt64"], unfollowed := true, recurses := true, apart := false, narrowed := true }
def RunPhantomUptoSaid : Prop := runPhantomUptoRow.holds Tryz.pinned (OpenSpec.upto runPhantomSpec)

/-- 'vinculumlaw24.RunSkew', WHERE WHAT IT READS IS OF BULK AT MOST 1048576: true; the input reads as it did. -/
def runSkewUptoRow : OpenClaim := { program := "ytdgombgcjeelpaagreat", sum := "e94f520b5515db86832de5664bc610aa1beefc8a6a263f36407bee73fd885281", func := "vinculum/vinculumlaw24.RunSkew", spec := "runSkew", inPlace := ["sync/atomic.AddInt64", "sync/atomic.LoadUint64", "sync/atomic.CompareAndSwapUint64", "sync/atomic.StoreUint64", "sync/atomic.LoadUint32", "(*internal/sync.Mutex).Lock", "internal/race.Disable", "sync/atomic.CompareAndSwapInt32", "internal/race.Enable", "internal/race.Acquire", "(*internal/sync.Mutex).lockSlow", "internal/sync.runtime_canSpin", "internal/sync.runtime_doSpin", "internal/sync.throw", "internal/sync.runtime_nanotime", "internal/sync.runtime_SemacquireMutex", "sync/atomic.AddInt32", "(*internal/sync.Mutex).Unlock", "internal/race.ReleaseMerge", "(*internal/sync.Mutex).unlockSlow", "internal/sync.fatal", "internal/sync.runtime_Semrelease", "sync/atomic.StoreUint32", "sync/atomic.LoadInt64"], unfollowed := true, recurses := true, apart := false, narrowed := true }
def RunSkewUptoSaid : Prop := runSkewUptoRow.holds Tryz.pinned (OpenSpec.upto runSkewSpec)

/-- 'vinculumlaw24.RunOver', WHERE WHAT IT READS IS OF BULK AT MOST 1048576: true; the input reads as it did. -/
def runOverUptoRow : OpenClaim := { program := "ytdgombgcjeelpaagreat", sum := "e94f520b5515db86832de5664bc610aa1beefc8a6a263f36407bee73fd885281", func := "vinculum/vinculumlaw24.RunOver", spec := "runOver", inPlace := ["sync/atomic.AddInt64", "sync/atomic.LoadUint64", "sync/atomic.CompareAndSwapUint64", "sync/atomic.StoreUint64", "sync/atomic.LoadUint32", "(*internal/sync.Mutex).Lock", "internal/race.Disable", "sync/atomic.CompareAndSwapInt32", "internal/race.Enable", "internal/race.Acquire", "(*internal/sync.Mutex).lockSlow", "internal/sync.runtime_canSpin", "internal/sync.runtime_doSpin", "internal/sync.throw", "internal/sync.runtime_nanotime", "internal/sync.runtime_SemacquireMutex", "sync/atomic.AddInt32", "(*internal/sync.Mutex).Unlock", "internal/race.ReleaseMerge", "(*internal/sync.Mutex).unlockSlow", "internal/sync.fatal", "internal/sync.runtime_Semrelease", "sync/atomic.StoreUint32", "sync/atomic.LoadInt64"], unfollowed := true, recurses := true, apart := false, narrowed := true }
def RunOverUptoSaid : Prop := runOverUptoRow.holds Tryz.pinned (OpenSpec.upto runOverSpec)

/-- 'vinculumlaw24.RunBonds', WHERE WHAT IT READS IS OF BULK AT MOST 1048576: true; the input reads as it did. -/
def runBondsUptoRow : OpenClaim := { program := "ytdgombgcjeelpaagreat", sum := "e94f520b5515db86832de5664bc610aa1beefc8a6a263f36407bee73fd885281", func := "vinculum/vinculumlaw24.RunBonds", spec := "runBonds", inPlace := ["sync/atomic.AddInt64", "sync/atomic.LoadUint64", "sync/atomic.CompareAndSwapUint64", "sync/atomic.StoreUint64", "sync/atomic.LoadUint32", "(*internal/sync.Mutex).Lock", "internal/race.Disable", "sync/atomic.CompareAndSwapInt32", "internal/race.Enable", "internal/race.Acquire", "(*internal/sync.Mutex).lockSlow", "internal/sync.runtime_canSpin", "internal/sync.runtime_doSpin", "internal/sync.throw", "internal/sync.runtime_nanotime", "internal/sync.runtime_SemacquireMutex", "sync/atomic.AddInt32", "(*internal/sync.Mutex).Unlock", "internal/race.ReleaseMerge", "(*internal/sync.Mutex).unlockSlow", "internal/sync.fatal", "internal/sync.runtime_Semrelease", "sync/atomic.StoreUint32", "sync/atomic.LoadInt64"], unfollowed := true, recurses := true, apart := false, narrowed := true }
def RunBondsUptoSaid : Prop := runBondsUptoRow.holds Tryz.pinned (OpenSpec.upto runBondsSpec)

/-- 'vinculumlaw24.RunPrep', WHERE WHAT IT READS IS OF BULK AT MOST 1048576: true; the input reads as it did. -/
def runPrepUptoRow : OpenClaim := { program := "ytdgombgcjeelpaagreat", sum := "e94f520b5515db86832de5664bc610aa1beefc8a6a263f36407bee73fd885281", func := "vinculum/vinculumlaw24.RunPrep", spec := "runPrep", inPlace := ["sync/atomic.AddInt64", "sync/atomic.LoadUint64", "sync/atomic.CompareAndSwapUint64", "sync/atomic.StoreUint64", "sync/atomic.LoadUint32", "(*internal/sync.Mutex).Lock", "internal/race.Disable", "sync/atomic.CompareAndSwapInt32", "internal/race.Enable", "internal/race.Acquire", "(*internal/sync.Mutex).lockSlow", "internal/sync.runtime_canSpin", "internal/sync.runtime_doSpin", "internal/sync.throw", "internal/sync.runtime_nanotime", "internal/sync.runtime_SemacquireMutex", "sync/atomic.AddInt32", "(*internal/sync.Mutex).Unlock", "internal/race.ReleaseMerge", "(*internal/sync.Mutex).unlockSlow", "internal/sync.fatal", "internal/sync.runtime_Semrelease", "sync/atomic.StoreUint32", "sync/atomic.LoadInt64"], unfollowed := true, recurses := true, apart := false, narrowed := true }
def RunPrepUptoSaid : Prop := runPrepUptoRow.holds Tryz.pinned (OpenSpec.upto runPrepSpec)

/-- 'vinculumlaw24.RunPasses', WHERE WHAT IT READS IS OF BULK AT MOST 1048576: true; the input reads as it did. -/
def runPassesUptoRow : OpenClaim := { program := "ytdgombgcjeelpaagreat", sum := "e94f520b5515db86832de5664bc610aa1beefc8a6a263f36407bee73fd885281", func := "vinculum/vinculumlaw24.RunPasses", spec := "runPasses", inPlace := ["sync/atomic.AddInt64", "sync/atomic.LoadUint64", "sync/atomic.CompareAndSwapUint64", "sync/atomic.StoreUint64", "sync/atomic.LoadUint32", "(*internal/sync.Mutex).Lock", "internal/race.Disable", "sync/atomic.CompareAndSwapInt32", "internal/race.Enable", "internal/race.Acquire", "(*internal/sync.Mutex).lockSlow", "internal/sync.runtime_canSpin", "internal/sync.runtime_doSpin", "internal/sync.throw", "internal/sync.runtime_nanotime", "internal/sync.runtime_SemacquireMutex", "sync/atomic.AddInt32", "(*internal/sync.Mutex).Unlock", "internal/race.ReleaseMerge", "(*internal/sync.Mutex).unlockSlow", "internal/sync.fatal", "internal/sync.runtime_Semrelease", "sync/atomic.StoreUint32", "sync/atomic.LoadInt64"], unfollowed := true, recurses := true, apart := false, narrowed := true }
def RunPassesUptoSaid : Prop := runPassesUptoRow.holds Tryz.pinned (OpenSpec.upto runPassesSpec)

/-- 'vinculumlaw24.RunFirst', WHERE WHAT IT READS IS OF BULK AT MOST 1048576: true; the input reads as it did. -/
def runFirstUptoRow : OpenClaim := { program := "ytdgombgcjeelpaagreat", sum := "e94f520b5515db86832de5664bc610aa1beefc8a6a263f36407bee73fd885281", func := "vinculum/vinculumlaw24.RunFirst", spec := "runFirst", inPlace := ["sync/atomic.AddInt64", "sync/atomic.LoadUint64", "sync/atomic.CompareAndSwapUint64", "sync/atomic.StoreUint64", "sync/atomic.LoadUint32", "(*internal/sync.Mutex).Lock", "internal/race.Disable", "sync/atomic.CompareAndSwapInt32", "internal/race.Enable", "internal/race.Acquire", "(*internal/sync.Mutex).lockSlow", "internal/sync.runtime_canSpin", "internal/sync.runtime_doSpin", "internal/sync.throw", "internal/sync.runtime_nanotime", "internal/sync.runtime_SemacquireMutex", "sync/atomic.AddInt32", "(*internal/sync.Mutex).Unlock", "internal/race.ReleaseMerge", "(*internal/sync.Mutex).unlockSlow", "internal/sync.fatal", "internal/sync.runtime_Semrelease", "sync/atomic.StoreUint32", "sync/atomic.LoadInt64"], unfollowed := true, recurses := true, apart := false, narrowed := true }
def RunFirstUptoSaid : Prop := runFirstUptoRow.holds Tryz.pinned (OpenSpec.upto runFirstSpec)

/-- 'vinculumlaw24.RunFull', WHERE WHAT IT READS IS OF BULK AT MOST 1048576: true; the input reads as it did. -/
def runFullUptoRow : OpenClaim := { program := "ytdgombgcjeelpaagreat", sum := "e94f520b5515db86832de5664bc610aa1beefc8a6a263f36407bee73fd885281", func := "vinculum/vinculumlaw24.RunFull", spec := "runFull", inPlace := ["sync/atomic.AddInt64", "sync/atomic.LoadUint64", "sync/atomic.CompareAndSwapUint64", "sync/atomic.StoreUint64", "sync/atomic.LoadUint32", "(*internal/sync.Mutex).Lock", "internal/race.Disable", "sync/atomic.CompareAndSwapInt32", "internal/race.Enable", "internal/race.Acquire", "(*internal/sync.Mutex).lockSlow", "internal/sync.runtime_canSpin", "internal/sync.runtime_doSpin", "internal/sync.throw", "internal/sync.runtime_nanotime", "internal/sync.runtime_SemacquireMutex", "sync/atomic.AddInt32", "(*internal/sync.Mutex).Unlock", "internal/race.ReleaseMerge", "(*internal/sync.Mutex).unlockSlow", "internal/sync.fatal", "internal/sync.runtime_Semrelease", "sync/atomic.StoreUint32", "sync/atomic.LoadInt64"], unfollowed := true, recurses := true, apart := false, narrowed := true }
def RunFullUptoSaid : Prop := runFullUptoRow.holds Tryz.pinned (OpenSpec.upto runFullSpec)

/-- 'vinculumlaw24.RunGone', WHERE WHAT IT READS IS OF BULK AT MOST 1048576: true; the input reads as it did. -/
def runGoneUptoRow : OpenClaim := { program := "ytdgombgcjeelpaagreat", sum := "e94f520b5515db86832de5664bc610aa1beefc8a6a263f36407bee73fd885281", func := "vinculum/vinculumlaw24.RunGone", spec := "runGone", inPlace := ["sync/atomic.AddInt64", "sync/atomic.LoadUint64", "sync/atomic.CompareAndSwapUint64", "sync/atomic.StoreUint64", "sync/atomic.LoadUint32", "(*internal/sync.Mutex).Lock", "internal/race.Disable", "sync/atomic.CompareAndSwapInt32", "internal/race.Enable", "internal/race.Acquire", "(*internal/sync.Mutex).lockSlow", "internal/sync.runtime_canSpin", "internal/sync.runtime_doSpin", "internal/sync.throw", "internal/sync.runtime_nanotime", "internal/sync.runtime_SemacquireMutex", "sync/atomic.AddInt32", "(*internal/sync.Mutex).Unlock", "internal/race.ReleaseMerge", "(*internal/sync.Mutex).unlockSlow", "internal/sync.fatal", "internal/sync.runtime_Semrelease", "sync/atomic.StoreUint32", "sync/atomic.LoadInt64"], unfollowed := true, recurses := true, apart := false, narrowed := true }
def RunGoneUptoSaid : Prop := runGoneUptoRow.holds Tryz.pinned (OpenSpec.upto runGoneSpec)

end Rows
end Go.Proofs.YtdgombgcjeelpaaGreat
