/-
  No cell of these rows narrows 'for every input' (looked for: loops, veiled, ifaces, maps, wideKeys, modest, calm, conditions, laid).
  DERIVED. THE GIVEN ROWS OF THIS SEAT. 12 by the template 'for every input the law returns true; each argument reads behind the call as it read before'; 0 by the template 'total and deterministic' (their statements: YtbefcdjcefmicaaGreatTotals.lean).
  GIVEN WITH THE SEED: the statements are not yours to turn. If you find one false, say at which input.
  Laid BY PROGRAM, IN A SANDBOX (cutbox-rows.mjs): the forced cells as the released guide's own fill.sh prints them over the translation 1ea8ce174927be48… (all of the seat's roots in one cut). By AI agents, Wed Nov 11 2026. No macro, syntax, notation, axiom, sorry.
-/
import Derived.Test.YtbefcdjcefmicaaGreatChecked
import GoSem.Claim
import GoSem.ClaimJoined
import GoSem.ClaimMapViews
import Derived.JoinedTies
import Derived.KernelRfl
namespace Go.Proofs.YtbefcdjcefmicaaGreat
/- THE CELL 'sum', in the pinned program and in every row, IS THE sha256 OF THE DUMP (.gsa) THAT YtbefcdjcefmicaaGreatProg.lean LOADS. Nothing in Lean hashes anything: it is a label: what it is worth is what the hold of that sum in a sandbox is worth. -/
noncomputable def Tryz.pinned : Pinned := { name := "ytbefcdjcefmicaagreat", sum := "1ea8ce174927be488b1b54c5f95be720d17eddd7838683f6d47617ba2039e910", checked := Tryz.checked }
namespace Rows
def none {H : Type} : Left H := { results := [], args := [] }

/-- 'vinculumlaw23.EngineOps': WHATEVER THE INPUT: true; the input reads as it did. -/
def engineOpsSpec : ChangeSpec := { name := "engineOps", fn := fun _ => fun
  | [d1, d2, d3] => { results := [.lit (.bool true)], args := [d1, d2, d3] }
  | _ => none }
def engineOpsRow : OpenClaim := { program := "ytbefcdjcefmicaagreat", sum := "1ea8ce174927be488b1b54c5f95be720d17eddd7838683f6d47617ba2039e910", func := "vinculum/vinculumlaw23.EngineOps", spec := "engineOps", inPlace := ["sync/atomic.LoadUint64", "sync/atomic.AddInt64", "sync/atomic.CompareAndSwapUint64", "sync/atomic.StoreUint64", "sync/atomic.LoadUint32", "(*internal/sync.Mutex).Lock", "internal/race.Disable", "sync/atomic.CompareAndSwapInt32", "internal/race.Enable", "internal/race.Acquire", "(*internal/sync.Mutex).lockSlow", "internal/sync.runtime_canSpin", "internal/sync.runtime_doSpin", "internal/sync.throw", "internal/sync.runtime_nanotime", "internal/sync.runtime_SemacquireMutex", "sync/atomic.AddInt32", "(*internal/sync.Mutex).Unlock", "internal/race.ReleaseMerge", "(*internal/sync.Mutex).unlockSlow", "internal/sync.fatal", "internal/sync.runtime_Semrelease", "sync/atomic.StoreUint32", "sync/atomic.LoadInt64"], unfollowed := true, recurses := true, apart := false }
def EngineOpsSaid : Prop := engineOpsRow.holds Tryz.pinned (OpenSpec.ofChange engineOpsSpec)

/-- ITS FALSE NEIGHBOUR: 'it returns false'. Refute it at one input. -/
def engineOpsWrong : ChangeSpec := { name := "engineOps", fn := fun _ => fun
  | [d1, d2, d3] => { results := [.lit (.bool false)], args := [d1, d2, d3] }
  | _ => none }
def EngineOpsWrongFalsely : Prop := engineOpsRow.holds Tryz.pinned (OpenSpec.ofChange engineOpsWrong)

/-- 'vinculumlaw23.EngineReads': WHATEVER THE INPUT: true; the input reads as it did. -/
def engineReadsSpec : ChangeSpec := { name := "engineReads", fn := fun _ => fun
  | [d1, d2, d3, d4] => { results := [.lit (.bool true)], args := [d1, d2, d3, d4] }
  | _ => none }
def engineReadsRow : OpenClaim := { program := "ytbefcdjcefmicaagreat", sum := "1ea8ce174927be488b1b54c5f95be720d17eddd7838683f6d47617ba2039e910", func := "vinculum/vinculumlaw23.EngineReads", spec := "engineReads", inPlace := ["sync/atomic.LoadUint64", "sync/atomic.AddInt64", "sync/atomic.CompareAndSwapUint64", "sync/atomic.StoreUint64", "sync/atomic.LoadUint32", "(*internal/sync.Mutex).Lock", "internal/race.Disable", "sync/atomic.CompareAndSwapInt32", "internal/race.Enable", "internal/race.Acquire", "(*internal/sync.Mutex).lockSlow", "internal/sync.runtime_canSpin", "internal/sync.runtime_doSpin", "internal/sync.throw", "internal/sync.runtime_nanotime", "internal/sync.runtime_SemacquireMutex", "sync/atomic.AddInt32", "(*internal/sync.Mutex).Unlock", "internal/race.ReleaseMerge", "(*internal/sync.Mutex).unlockSlow", "internal/sync.fatal", "internal/sync.runtime_Semrelease", "sync/atomic.StoreUint32", "sync/atomic.LoadInt64"], unfollowed := true, recurses := true, apart := false }
def EngineReadsSaid : Prop := engineReadsRow.holds Tryz.pinned (OpenSpec.ofChange engineReadsSpec)

/-- ITS FALSE NEIGHBOUR: 'it returns false'. Refute it at one input. -/
def engineReadsWrong : ChangeSpec := { name := "engineReads", fn := fun _ => fun
  | [d1, d2, d3, d4] => { results := [.lit (.bool false)], args := [d1, d2, d3, d4] }
  | _ => none }
def EngineReadsWrongFalsely : Prop := engineReadsRow.holds Tryz.pinned (OpenSpec.ofChange engineReadsWrong)

/-- 'vinculumlaw23.EngineBounds': WHATEVER THE INPUT: true; the input reads as it did. -/
def engineBoundsSpec : ChangeSpec := { name := "engineBounds", fn := fun _ => fun
  | [d1, d2] => { results := [.lit (.bool true)], args := [d1, d2] }
  | _ => none }
def engineBoundsRow : OpenClaim := { program := "ytbefcdjcefmicaagreat", sum := "1ea8ce174927be488b1b54c5f95be720d17eddd7838683f6d47617ba2039e910", func := "vinculum/vinculumlaw23.EngineBounds", spec := "engineBounds", inPlace := ["sync/atomic.LoadUint64", "sync/atomic.LoadUint32", "(*internal/sync.Mutex).Lock", "internal/race.Disable", "sync/atomic.CompareAndSwapInt32", "internal/race.Enable", "internal/race.Acquire", "(*internal/sync.Mutex).lockSlow", "internal/sync.runtime_canSpin", "internal/sync.runtime_doSpin", "internal/sync.throw", "internal/sync.runtime_nanotime", "internal/sync.runtime_SemacquireMutex", "sync/atomic.AddInt32", "(*internal/sync.Mutex).Unlock", "internal/race.ReleaseMerge", "(*internal/sync.Mutex).unlockSlow", "internal/sync.fatal", "internal/sync.runtime_Semrelease", "sync/atomic.StoreUint32", "sync/atomic.AddInt64", "sync/atomic.CompareAndSwapUint64", "sync/atomic.StoreUint64", "sync/atomic.LoadInt64"], unfollowed := true, recurses := true, apart := false }
def EngineBoundsSaid : Prop := engineBoundsRow.holds Tryz.pinned (OpenSpec.ofChange engineBoundsSpec)

/-- ITS FALSE NEIGHBOUR: 'it returns false'. Refute it at one input. -/
def engineBoundsWrong : ChangeSpec := { name := "engineBounds", fn := fun _ => fun
  | [d1, d2] => { results := [.lit (.bool false)], args := [d1, d2] }
  | _ => none }
def EngineBoundsWrongFalsely : Prop := engineBoundsRow.holds Tryz.pinned (OpenSpec.ofChange engineBoundsWrong)

/-- 'vinculumlaw24.RunAlone': WHATEVER THE INPUT: true; the input reads as it did. -/
def runAloneSpec : ChangeSpec := { name := "runAlone", fn := fun _ => fun
  | [d1, d2] => { results := [.lit (.bool true)], args := [d1, d2] }
  | _ => none }
def runAloneRow : OpenClaim := { program := "ytbefcdjcefmicaagreat", sum := "1ea8ce174927be488b1b54c5f95be720d17eddd7838683f6d47617ba2039e910", func := "vinculum/vinculumlaw24.RunAlone", spec := "runAlone", inPlace := ["sync/atomic.AddInt64", "sync/atomic.LoadUint64", "sync/atomic.CompareAndSwapUint64", "sync/atomic.StoreUint64", "sync/atomic.LoadUint32", "(*internal/sync.Mutex).Lock", "internal/race.Disable", "sync/atomic.CompareAndSwapInt32", "internal/race.Enable", "internal/race.Acquire", "(*internal/sync.Mutex).lockSlow", "internal/sync.runtime_canSpin", "internal/sync.runtime_doSpin", "internal/sync.throw", "internal/sync.runtime_nanotime", "internal/sync.runtime_SemacquireMutex", "sync/atomic.AddInt32", "(*internal/sync.Mutex).Unlock", "internal/race.ReleaseMerge", "(*internal/sync.Mutex).unlockSlow", "internal/sync.fatal", "internal/sync.runtime_Semrelease", "sync/atomic.StoreUint32", "sync/atomic.LoadInt64"], unfollowed := true, recurses := true, apart := false }
def RunAloneSaid : Prop := runAloneRow.holds Tryz.pinned (OpenSpec.ofChange runAloneSpec)

/-- ITS FALSE NEIGHBOUR: 'it returns false'. Refute it at one input. -/
def runAloneWrong : ChangeSpec := { name := "runAlone", fn := fun _ => fun
  | [d1, d2] => { results := [.lit (.bool false)], args := [d1, d2] }
  | _ => none }
def RunAloneWrongFalsely : Prop := runAloneRow.holds Tryz.pinned (OpenSpec.ofChange runAloneWrong)

/-- 'vinculumlaw24.RunPhantom': WHATEVER THE INPUT: true; the input reads as it did. -/
def runPhantomSpec : ChangeSpec := { name := "runPhantom", fn := fun _ => fun
  | [d1, d2, d3, d4] => { results := [.lit (.bool true)], args := [d1, d2, d3, d4] }
  | _ => none }
def runPhantomRow : OpenClaim := { program := "ytbefcdjcefmicaagreat", sum := "1ea8ce174927be488b1b54c5f95be720d17eddd7838683f6d47617ba2039e910", func := "vinculum/vinculumlaw24.RunPhantom", spec := "runPhantom", inPlace := ["sync/atomic.AddInt64", "sync/atomic.LoadUint64", "sync/atomic.CompareAndSwapUint64", "sync/atomic.StoreUint64", "sync/atomic.LoadUint32", "(*internal/sync.Mutex).Lock", "internal/race.Disable", "sync/atomic.CompareAndSwapInt32", "internal/race.Enable", "internal/race.Acquire", "(*internal/sync.Mutex).lockSlow", "internal/sync.runtime_canSpin", "internal/sync.runtime_doSpin", "internal/sync.throw", "internal/sync.runtime_nanotime", "internal/sync.runtime_SemacquireMutex", "sync/atomic.AddInt32", "(*internal/sync.Mutex).Unlock", "internal/race.ReleaseMerge", "(*internal/sync.Mutex).unlockSlow", "internal/sync.fatal", "internal/sync.runtime_Semrelease", "sync/atomic.StoreUint32", "sync/atomic.LoadInt64"], unfollowed := true, recurses := true, apart := false }
def RunPhantomSaid : Prop := runPhantomRow.holds Tryz.pinned (OpenSpec.ofChange runPhantomSpec)

/-- ITS FALSE NEIGHBOUR: 'it returns false'. Refute it at one input. -/
def runPhantomWrong : ChangeSpec := { name := "runPhantom", fn := fun _ => fun
  | [d1, d2, d3, d4] => { results := [.lit (.bool false)], args := [d1, d2, d3, d4] }
  | _ => none }
def RunPhantomWrongFalsely : Prop := runPhantomRow.holds Tryz.pinned (OpenSpec.ofChange runPhantomWrong)

/-- 'vinculumlaw24.RunSkew': WHATEVER THE INPUT: true; the input reads as it did. -/
def runSkewSpec : ChangeSpec := { name := "runSkew", fn := fun _ => fun
  | [d1, d2, d3] => { results := [.lit (.bool true)], args := [d1, d2, d3] }
  | _ => none }
def runSkewRow : OpenClaim := { program := "ytbefcdjcefmicaagreat", sum := "1ea8ce174927be488b1b54c5f95be720d17eddd7838683f6d47617ba2039e910", func := "vinculum/vinculumlaw24.RunSkew", spec := "runSkew", inPlace := ["sync/atomic.AddInt64", "sync/atomic.LoadUint64", "sync/atomic.CompareAndSwapUint64", "sync/atomic.StoreUint64", "sync/atomic.LoadUint32", "(*internal/sync.Mutex).Lock", "internal/race.Disable", "sync/atomic.CompareAndSwapInt32", "internal/race.Enable", "internal/race.Acquire", "(*internal/sync.Mutex).lockSlow", "internal/sync.runtime_canSpin", "internal/sync.runtime_doSpin", "internal/sync.throw", "internal/sync.runtime_nanotime", "internal/sync.runtime_SemacquireMutex", "sync/atomic.AddInt32", "(*internal/sync.Mutex).Unlock", "internal/race.ReleaseMerge", "(*internal/sync.Mutex).unlockSlow", "internal/sync.fatal", "internal/sync.runtime_Semrelease", "sync/atomic.StoreUint32", "sync/atomic.LoadInt64"], unfollowed := true, recurses := true, apart := false }
def RunSkewSaid : Prop := runSkewRow.holds Tryz.pinned (OpenSpec.ofChange runSkewSpec)

/-- ITS FALSE NEIGHBOUR: 'it returns false'. Refute it at one input. -/
def runSkewWrong : ChangeSpec := { name := "runSkew", fn := fun _ => fun
  | [d1, d2, d3] => { results := [.lit (.bool false)], args := [d1, d2, d3] }
  | _ => none }
def RunSkewWrongFalsely : Prop := runSkewRow.holds Tryz.pinned (OpenSpec.ofChange runSkewWrong)

/-- 'vinculumlaw24.RunWhole': WHATEVER THE INPUT: true; the input reads as it did. -/
def runWholeSpec : ChangeSpec := { name := "runWhole", fn := fun _ => fun
  | [d1, d2, d3] => { results := [.lit (.bool true)], args := [d1, d2, d3] }
  | _ => none }
def runWholeRow : OpenClaim := { program := "ytbefcdjcefmicaagreat", sum := "1ea8ce174927be488b1b54c5f95be720d17eddd7838683f6d47617ba2039e910", func := "vinculum/vinculumlaw24.RunWhole", spec := "runWhole", inPlace := ["sync/atomic.AddInt64", "sync/atomic.LoadUint64", "sync/atomic.CompareAndSwapUint64", "sync/atomic.StoreUint64", "sync/atomic.LoadUint32", "(*internal/sync.Mutex).Lock", "internal/race.Disable", "sync/atomic.CompareAndSwapInt32", "internal/race.Enable", "internal/race.Acquire", "(*internal/sync.Mutex).lockSlow", "internal/sync.runtime_canSpin", "internal/sync.runtime_doSpin", "internal/sync.throw", "internal/sync.runtime_nanotime", "internal/sync.runtime_SemacquireMutex", "sync/atomic.AddInt32", "(*internal/sync.Mutex).Unlock", "internal/race.ReleaseMerge", "(*internal/sync.Mutex).unlockSlow", "internal/sync.fatal", "internal/sync.runtime_Semrelease", "sync/atomic.StoreUint32", "sync/atomic.LoadInt64"], unfollowed := true, recurses := true, apart := false }
def RunWholeSaid : Prop := runWholeRow.holds Tryz.pinned (OpenSpec.ofChange runWholeSpec)

/-- ITS FALSE NEIGHBOUR: 'it returns false'. Refute it at one input. -/
def runWholeWrong : ChangeSpec := { name := "runWhole", fn := fun _ => fun
  | [d1, d2, d3] => { results := [.lit (.bool false)], args := [d1, d2, d3] }
  | _ => none }
def RunWholeWrongFalsely : Prop := runWholeRow.holds Tryz.pinned (OpenSpec.ofChange runWholeWrong)

/-- 'vinculumlaw24.RunPrep': WHATEVER THE INPUT: true; the input reads as it did. -/
def runPrepSpec : ChangeSpec := { name := "runPrep", fn := fun _ => fun
  | [d1, d2] => { results := [.lit (.bool true)], args := [d1, d2] }
  | _ => none }
def runPrepRow : OpenClaim := { program := "ytbefcdjcefmicaagreat", sum := "1ea8ce174927be488b1b54c5f95be720d17eddd7838683f6d47617ba2039e910", func := "vinculum/vinculumlaw24.RunPrep", spec := "runPrep", inPlace := ["sync/atomic.AddInt64", "sync/atomic.LoadUint64", "sync/atomic.CompareAndSwapUint64", "sync/atomic.StoreUint64", "sync/atomic.LoadUint32", "(*internal/sync.Mutex).Lock", "internal/race.Disable", "sync/atomic.CompareAndSwapInt32", "internal/race.Enable", "internal/race.Acquire", "(*internal/sync.Mutex).lockSlow", "internal/sync.runtime_canSpin", "internal/sync.runtime_doSpin", "internal/sync.throw", "internal/sync.runtime_nanotime", "internal/sync.runtime_SemacquireMutex", "sync/atomic.AddInt32", "(*internal/sync.Mutex).Unlock", "internal/race.ReleaseMerge", "(*internal/sync.Mutex).unlockSlow", "internal/sync.fatal", "internal/sync.runtime_Semrelease", "sync/atomic.StoreUint32", "sync/atomic.LoadInt64"], unfollowed := true, recurses := true, apart := false }
def RunPrepSaid : Prop := runPrepRow.holds Tryz.pinned (OpenSpec.ofChange runPrepSpec)

/-- ITS FALSE NEIGHBOUR: 'it returns false'. Refute it at one input. -/
def runPrepWrong : ChangeSpec := { name := "runPrep", fn := fun _ => fun
  | [d1, d2] => { results := [.lit (.bool false)], args := [d1, d2] }
  | _ => none }
def RunPrepWrongFalsely : Prop := runPrepRow.holds Tryz.pinned (OpenSpec.ofChange runPrepWrong)

/-- 'vinculumlaw23.EngineSame': WHATEVER THE INPUT: true; the input reads as it did. -/
def engineSameSpec : ChangeSpec := { name := "engineSame", fn := fun _ => fun
  | [d] => { results := [.lit (.bool true)], args := [d] }
  | _ => none }
def engineSameRow : OpenClaim := { program := "ytbefcdjcefmicaagreat", sum := "1ea8ce174927be488b1b54c5f95be720d17eddd7838683f6d47617ba2039e910", func := "vinculum/vinculumlaw23.EngineSame", spec := "engineSame", inPlace := ["sync/atomic.LoadUint64", "sync/atomic.AddInt64", "sync/atomic.CompareAndSwapUint64", "sync/atomic.StoreUint64", "sync/atomic.LoadUint32", "(*internal/sync.Mutex).Lock", "internal/race.Disable", "sync/atomic.CompareAndSwapInt32", "internal/race.Enable", "internal/race.Acquire", "(*internal/sync.Mutex).lockSlow", "internal/sync.runtime_canSpin", "internal/sync.runtime_doSpin", "internal/sync.throw", "internal/sync.runtime_nanotime", "internal/sync.runtime_SemacquireMutex", "sync/atomic.AddInt32", "(*internal/sync.Mutex).Unlock", "internal/race.ReleaseMerge", "(*internal/sync.Mutex).unlockSlow", "internal/sync.fatal", "internal/sync.runtime_Semrelease", "sync/atomic.StoreUint32", "sync/atomic.LoadInt64"], unfollowed := true, recurses := true, apart := false }
def EngineSameSaid : Prop := engineSameRow.holds Tryz.pinned (OpenSpec.ofChange engineSameSpec)

/-- ITS FALSE NEIGHBOUR: 'it returns false'. Refute it at one input. -/
def engineSameWrong : ChangeSpec := { name := "engineSame", fn := fun _ => fun
  | [d] => { results := [.lit (.bool false)], args := [d] }
  | _ => none }
def EngineSameWrongFalsely : Prop := engineSameRow.holds Tryz.pinned (OpenSpec.ofChange engineSameWrong)

/-- 'vinculumlaw23.EngineRefuses': WHATEVER THE INPUT: true; the input reads as it did. -/
def engineRefusesSpec : ChangeSpec := { name := "engineRefuses", fn := fun _ => fun
  | [d1, d2] => { results := [.lit (.bool true)], args := [d1, d2] }
  | _ => none }
def engineRefusesRow : OpenClaim := { program := "ytbefcdjcefmicaagreat", sum := "1ea8ce174927be488b1b54c5f95be720d17eddd7838683f6d47617ba2039e910", func := "vinculum/vinculumlaw23.EngineRefuses", spec := "engineRefuses", inPlace := ["sync/atomic.LoadUint64", "sync/atomic.AddInt64", "sync/atomic.CompareAndSwapUint64", "sync/atomic.StoreUint64", "sync/atomic.LoadUint32", "(*internal/sync.Mutex).Lock", "internal/race.Disable", "sync/atomic.CompareAndSwapInt32", "internal/race.Enable", "internal/race.Acquire", "(*internal/sync.Mutex).lockSlow", "internal/sync.runtime_canSpin", "internal/sync.runtime_doSpin", "internal/sync.throw", "internal/sync.runtime_nanotime", "internal/sync.runtime_SemacquireMutex", "sync/atomic.AddInt32", "(*internal/sync.Mutex).Unlock", "internal/race.ReleaseMerge", "(*internal/sync.Mutex).unlockSlow", "internal/sync.fatal", "internal/sync.runtime_Semrelease", "sync/atomic.StoreUint32", "sync/atomic.LoadInt64"], unfollowed := true, recurses := true, apart := false }
def EngineRefusesSaid : Prop := engineRefusesRow.holds Tryz.pinned (OpenSpec.ofChange engineRefusesSpec)

/-- ITS FALSE NEIGHBOUR: 'it returns false'. Refute it at one input. -/
def engineRefusesWrong : ChangeSpec := { name := "engineRefuses", fn := fun _ => fun
  | [d1, d2] => { results := [.lit (.bool false)], args := [d1, d2] }
  | _ => none }
def EngineRefusesWrongFalsely : Prop := engineRefusesRow.holds Tryz.pinned (OpenSpec.ofChange engineRefusesWrong)

/-- 'vinculumlaw24.RunFull': WHATEVER THE INPUT: true; the input reads as it did. -/
def runFullSpec : ChangeSpec := { name := "runFull", fn := fun _ => fun
  | [d1, d2] => { results := [.lit (.bool true)], args := [d1, d2] }
  | _ => none }
def runFullRow : OpenClaim := { program := "ytbefcdjcefmicaagreat", sum := "1ea8ce174927be488b1b54c5f95be720d17eddd7838683f6d47617ba2039e910", func := "vinculum/vinculumlaw24.RunFull", spec := "runFull", inPlace := ["sync/atomic.AddInt64", "sync/atomic.LoadUint64", "sync/atomic.CompareAndSwapUint64", "sync/atomic.StoreUint64", "sync/atomic.LoadUint32", "(*internal/sync.Mutex).Lock", "internal/race.Disable", "sync/atomic.CompareAndSwapInt32", "internal/race.Enable", "internal/race.Acquire", "(*internal/sync.Mutex).lockSlow", "internal/sync.runtime_canSpin", "internal/sync.runtime_doSpin", "internal/sync.throw", "internal/sync.runtime_nanotime", "internal/sync.runtime_SemacquireMutex", "sync/atomic.AddInt32", "(*internal/sync.Mutex).Unlock", "internal/race.ReleaseMerge", "(*internal/sync.Mutex).unlockSlow", "internal/sync.fatal", "internal/sync.runtime_Semrelease", "sync/atomic.StoreUint32", "sync/atomic.LoadInt64"], unfollowed := true, recurses := true, apart := false }
def RunFullSaid : Prop := runFullRow.holds Tryz.pinned (OpenSpec.ofChange runFullSpec)

/-- ITS FALSE NEIGHBOUR: 'it returns false'. Refute it at one input. -/
def runFullWrong : ChangeSpec := { name := "runFull", fn := fun _ => fun
  | [d1, d2] => { results := [.lit (.bool false)], args := [d1, d2] }
  | _ => none }
def RunFullWrongFalsely : Prop := runFullRow.holds Tryz.pinned (OpenSpec.ofChange runFullWrong)

/-- 'vinculumlaw24.RunGone': WHATEVER THE INPUT: true; the input reads as it did. -/
def runGoneSpec : ChangeSpec := { name := "runGone", fn := fun _ => fun
  | [d1, d2] => { results := [.lit (.bool true)], args := [d1, d2] }
  | _ => none }
def runGoneRow : OpenClaim := { program := "ytbefcdjcefmicaagreat", sum := "1ea8ce174927be488b1b54c5f95be720d17eddd7838683f6d47617ba2039e910", func := "vinculum/vinculumlaw24.RunGone", spec := "runGone", inPlace := ["sync/atomic.AddInt64", "sync/atomic.LoadUint64", "sync/atomic.CompareAndSwapUint64", "sync/atomic.StoreUint64", "sync/atomic.LoadUint32", "(*internal/sync.Mutex).Lock", "internal/race.Disable", "sync/atomic.CompareAndSwapInt32", "internal/race.Enable", "internal/race.Acquire", "(*internal/sync.Mutex).lockSlow", "internal/sync.runtime_canSpin", "internal/sync.runtime_doSpin", "internal/sync.throw", "internal/sync.runtime_nanotime", "internal/sync.runtime_SemacquireMutex", "sync/atomic.AddInt32", "(*internal/sync.Mutex).Unlock", "internal/race.ReleaseMerge", "(*internal/sync.Mutex).unlockSlow", "internal/sync.fatal", "internal/sync.runtime_Semrelease", "sync/atomic.StoreUint32", "sync/atomic.LoadInt64"], unfollowed := true, recurses := true, apart := false }
def RunGoneSaid : Prop := runGoneRow.holds Tryz.pinned (OpenSpec.ofChange runGoneSpec)

/-- ITS FALSE NEIGHBOUR: 'it returns false'. Refute it at one input. -/
def runGoneWrong : ChangeSpec := { name := "runGone", fn := fun _ => fun
  | [d1, d2] => { results := [.lit (.bool false)], args := [d1, d2] }
  | _ => none }
def RunGoneWrongFalsely : Prop := runGoneRow.holds Tryz.pinned (OpenSpec.ofChange runGoneWrong)

/- THE SECOND FORM. 'bulk': how many values and letters a reading holds, each counted each time it is reached (what is shared counts as often as it is met; a slice's spare places count too). A statement '..UptoSaid' is the law's where the arguments, and the package variables that the reading takes, are together of bulk at most 1048576: NARROWER than '..Said'. Prove '..Said' where nothing that the law and all that it calls make is longer than what came in: it says more and counts as full. Else prove '..UptoSaid'. A law counts once. -/
mutual
def uptoBulk {H : Type} : DataW H → Nat
  | .lit (.string bytes) => bytes.length + 1
  | .lit _ => 1
  | .nil => 1
  | .ptr d => uptoBulk d + 1
  | .slice elems spare => uptoBulkAll elems + uptoBulkAll spare + 1
  | .agg parts => uptoBulkAll parts + 1
  | .iface _ d => uptoBulk d + 1
  | .map entries => uptoBulkEntries entries + 1
  | .held _ => 1
def uptoBulkAll {H : Type} : List (DataW H) → Nat
  | [] => 0
  | d :: r => uptoBulk d + uptoBulkAll r
def uptoBulkEntries {H : Type} : List (Lit × DataW H) → Nat
  | [] => 0
  | x :: r => uptoBulkEntry x + uptoBulkEntries r
def uptoBulkEntry {H : Type} : Lit × DataW H → Nat
  | (.string bytes, d) => bytes.length + uptoBulk d + 1
  | (_, d) => uptoBulk d + 1
 end
def uptoSmall : (H : Type) → List (DataW H) → Bool := fun _ ds => decide (uptoBulkAll ds ≤ 1048576)
def OpenSpec.upto (s : _root_.Go.ChangeSpec) : _root_.Go.OpenSpec := { _root_.Go.OpenSpec.ofChange s with cond := some uptoSmall }

/-- 'vinculumlaw23.EngineOps', WHERE WHAT IT READS IS OF BULK AT MOST 1048576: true; the input reads as it did. -/
def engineOpsUptoRow : OpenClaim := { program := "ytbefcdjcefmicaagreat", sum := "1ea8ce174927be488b1b54c5f95be720d17eddd7838683f6d47617ba2039e910", func := "vinculum/vinculumlaw23.EngineOps", spec := "engineOps", inPlace := ["sync/atomic.LoadUint64", "sync/atomic.AddInt64", "sync/atomic.CompareAndSwapUint64", "sync/atomic.StoreUint64", "sync/atomic.LoadUint32", "(*internal/sync.Mutex).Lock", "internal/race.Disable", "sync/atomic.CompareAndSwapInt32", "internal/race.Enable", "internal/race.Acquire", "(*internal/sync.Mutex).lockSlow", "internal/sync.runtime_canSpin", "internal/sync.runtime_doSpin", "internal/sync.throw", "internal/sync.runtime_nanotime", "internal/sync.runtime_SemacquireMutex", "sync/atomic.AddInt32", "(*internal/sync.Mutex).Unlock", "internal/race.ReleaseMerge", "(*internal/sync.Mutex).unlockSlow", "internal/sync.fatal", "internal/sync.runtime_Semrelease", "sync/atomic.StoreUint32", "sync/atomic.LoadInt64"], unfollowed := true, recurses := true, apart := false, narrowed := true }
def EngineOpsUptoSaid : Prop := engineOpsUptoRow.holds Tryz.pinned (OpenSpec.upto engineOpsSpec)

/-- 'vinculumlaw23.EngineReads', WHERE WHAT IT READS IS OF BULK AT MOST 1048576: true; the input reads as it did. -/
def engineReadsUptoRow : OpenClaim := { program := "ytbefcdjcefmicaagreat", sum := "1ea8ce174927be488b1b54c5f95be720d17eddd7838683f6d47617ba2039e910", func := "vinculum/vinculumlaw23.EngineReads", spec := "engineReads", inPlace := ["sync/atomic.LoadUint64", "sync/atomic.AddInt64", "sync/atomic.CompareAndSwapUint64", "sync/atomic.StoreUint64", "sync/atomic.LoadUint32", "(*internal/sync.Mutex).Lock", "internal/race.Disable", "sync/atomic.CompareAndSwapInt32", "internal/race.Enable", "internal/race.Acquire", "(*internal/sync.Mutex).lockSlow", "internal/sync.runtime_canSpin", "internal/sync.runtime_doSpin", "internal/sync.throw", "internal/sync.runtime_nanotime", "internal/sync.runtime_SemacquireMutex", "sync/atomic.AddInt32", "(*internal/sync.Mutex).Unlock", "internal/race.ReleaseMerge", "(*internal/sync.Mutex).unlockSlow", "internal/sync.fatal", "internal/sync.runtime_Semrelease", "sync/atomic.StoreUint32", "sync/atomic.LoadInt64"], unfollowed := true, recurses := true, apart := false, narrowed := true }
def EngineReadsUptoSaid : Prop := engineReadsUptoRow.holds Tryz.pinned (OpenSpec.upto engineReadsSpec)

/-- 'vinculumlaw23.EngineBounds', WHERE WHAT IT READS IS OF BULK AT MOST 1048576: true; the input reads as it did. -/
def engineBoundsUptoRow : OpenClaim := { program := "ytbefcdjcefmicaagreat", sum := "1ea8ce174927be488b1b54c5f95be720d17eddd7838683f6d47617ba2039e910", func := "vinculum/vinculumlaw23.EngineBounds", spec := "engineBounds", inPlace := ["sync/atomic.LoadUint64", "sync/atomic.LoadUint32", "(*internal/sync.Mutex).Lock", "internal/race.Disable", "sync/atomic.CompareAndSwapInt32", "internal/race.Enable", "internal/race.Acquire", "(*internal/sync.Mutex).lockSlow", "internal/sync.runtime_canSpin", "internal/sync.runtime_doSpin", "internal/sync.throw", "internal/sync.runtime_nanotime", "internal/sync.runtime_SemacquireMutex", "sync/atomic.AddInt32", "(*internal/sync.Mutex).Unlock", "internal/race.ReleaseMerge", "(*internal/sync.Mutex).unlockSlow", "internal/sync.fatal", "internal/sync.runtime_Semrelease", "sync/atomic.StoreUint32", "sync/atomic.AddInt64", "sync/atomic.CompareAndSwapUint64", "sync/atomic.StoreUint64", "sync/atomic.LoadInt64"], unfollowed := true, recurses := true, apart := false, narrowed := true }
def EngineBoundsUptoSaid : Prop := engineBoundsUptoRow.holds Tryz.pinned (OpenSpec.upto engineBoundsSpec)

/-- 'vinculumlaw24.RunAlone', WHERE WHAT IT READS IS OF BULK AT MOST 1048576: true; the input reads as it did. -/
def runAloneUptoRow : OpenClaim := { program := "ytbefcdjcefmicaagreat", sum := "1ea8ce174927be488b1b54c5f95be720d17eddd7838683f6d47617ba2039e910", func := "vinculum/vinculumlaw24.RunAlone", spec := "runAlone", inPlace := ["sync/atomic.AddInt64", "sync/atomic.LoadUint64", "sync/atomic.CompareAndSwapUint64", "sync/atomic.StoreUint64", "sync/atomic.LoadUint32", "(*internal/sync.Mutex).Lock", "internal/race.Disable", "sync/atomic.CompareAndSwapInt32", "internal/race.Enable", "internal/race.Acquire", "(*internal/sync.Mutex).lockSlow", "internal/sync.runtime_canSpin", "internal/sync.runtime_doSpin", "internal/sync.throw", "internal/sync.runtime_nanotime", "internal/sync.runtime_SemacquireMutex", "sync/atomic.AddInt32", "(*internal/sync.Mutex).Unlock", "internal/race.ReleaseMerge", "(*internal/sync.Mutex).unlockSlow", "internal/sync.fatal", "internal/sync.runtime_Semrelease", "sync/atomic.StoreUint32", "sync/atomic.LoadInt64"], unfollowed := true, recurses := true, apart := false, narrowed := true }
def RunAloneUptoSaid : Prop := runAloneUptoRow.holds Tryz.pinned (OpenSpec.upto runAloneSpec)

/-- 'vinculumlaw24.RunPhantom', WHERE WHAT IT READS IS OF BULK AT MOST 1048576: true; the input reads as it did. -/
def runPhantomUptoRow : OpenClaim := { program := "ytbefcdjcefmicaagreat", sum := "1ea8ce174927be488b1b54c5f95be720d17eddd7838683f6d47617ba2039e910", func := "vinculum/vinculumlaw24.RunPhantom", spec := "runPhantom", inPlace := ["sync/atomic.AddInt64", "sync/atomic.LoadUint64", "sync/atomic.CompareAndSwapUint64", "sync/atomic.StoreUint64", "sync/atomic.LoadUint32", "(*internal/sync.Mutex).Lock", "internal/race.Disable", "sync/atomic.CompareAndSwapInt32", "internal/race.Enable", "internal/race.Acquire", "(*internal/sync.Mutex).lockSlow", "internal/sync.runtime_canSpin", "internal/sync.runtime_doSpin", "internal/sync.throw", "internal/sync.runtime_nanotime", "internal/sync.runtime_SemacquireMutex", "sync/atomic.AddInt32", "(*internal/sync.Mutex).Unlock", "internal/race.ReleaseMerge", "(*internal/sync.Mutex).unlockSlow", "internal/sync.fatal", "internal/sync.runtime_Semrelease", "sync/atomic.StoreUint32", "sync/atomic.LoadInt64"], unfollowed := true, recurses := true, apart := false, narrowed := true }
def RunPhantomUptoSaid : Prop := runPhantomUptoRow.holds Tryz.pinned (OpenSpec.upto runPhantomSpec)

/-- 'vinculumlaw24.RunSkew', WHERE WHAT IT READS IS OF BULK AT MOST 1048576: true; the input reads as it did. -/
def runSkewUptoRow : OpenClaim := { program := "ytbefcdjcefmicaagreat", sum := "1ea8ce174927be488b1b54c5f95be720d17eddd7838683f6d47617ba2039e910", func := "vinculum/vinculumlaw24.RunSkew", spec := "runSkew", inPlace := ["sync/atomic.AddInt64", "sync/atomic.LoadUint64", "sync/atomic.CompareAndSwapUint64", "sync/atomic.StoreUint64", "sync/atomic.LoadUint32", "(*internal/sync.Mutex).Lock", "internal/race.Disable", "sync/atomic.CompareAndSwapInt32", "internal/race.Enable", "internal/race.Acquire", "(*internal/sync.Mutex).lockSlow", "internal/sync.runtime_canSpin", "internal/sync.runtime_doSpin", "internal/sync.throw", "internal/sync.runtime_nanotime", "internal/sync.runtime_SemacquireMutex", "sync/atomic.AddInt32", "(*internal/sync.Mutex).Unlock", "internal/race.ReleaseMerge", "(*internal/sync.Mutex).unlockSlow", "internal/sync.fatal", "internal/sync.runtime_Semrelease", "sync/atomic.StoreUint32", "sync/atomic.LoadInt64"], unfollowed := true, recurses := true, apart := false, narrowed := true }
def RunSkewUptoSaid : Prop := runSkewUptoRow.holds Tryz.pinned (OpenSpec.upto runSkewSpec)

/-- 'vinculumlaw24.RunWhole', WHERE WHAT IT READS IS OF BULK AT MOST 1048576: true; the input reads as it did. -/
def runWholeUptoRow : OpenClaim := { program := "ytbefcdjcefmicaagreat", sum := "1ea8ce174927be488b1b54c5f95be720d17eddd7838683f6d47617ba2039e910", func := "vinculum/vinculumlaw24.RunWhole", spec := "runWhole", inPlace := ["sync/atomic.AddInt64", "sync/atomic.LoadUint64", "sync/atomic.CompareAndSwapUint64", "sync/atomic.StoreUint64", "sync/atomic.LoadUint32", "(*internal/sync.Mutex).Lock", "internal/race.Disable", "sync/atomic.CompareAndSwapInt32", "internal/race.Enable", "internal/race.Acquire", "(*internal/sync.Mutex).lockSlow", "internal/sync.runtime_canSpin", "internal/sync.runtime_doSpin", "internal/sync.throw", "internal/sync.runtime_nanotime", "internal/sync.runtime_SemacquireMutex", "sync/atomic.AddInt32", "(*internal/sync.Mutex).Unlock", "internal/race.ReleaseMerge", "(*internal/sync.Mutex).unlockSlow", "internal/sync.fatal", "internal/sync.runtime_Semrelease", "sync/atomic.StoreUint32", "sync/atomic.LoadInt64"], unfollowed := true, recurses := true, apart := false, narrowed := true }
def RunWholeUptoSaid : Prop := runWholeUptoRow.holds Tryz.pinned (OpenSpec.upto runWholeSpec)

/-- 'vinculumlaw24.RunPrep', WHERE WHAT IT READS IS OF BULK AT MOST 1048576: true; the input reads as it did. -/
def runPrepUptoRow : OpenClaim := { program := "ytbefcdjcefmicaagreat", sum := "1ea8ce174927be488b1b54c5f95be720d17eddd7838683f6d47617ba2039e910", func := "vinculum/vinculumlaw24.RunPrep", spec := "runPrep", inPlace := ["sync/atomic.AddInt64", "sync/atomic.LoadUint64", "sync/atomic.CompareAndSwapUint64", "sync/atomic.StoreUint64", "sync/atomic.LoadUint32", "(*internal/sync.Mutex).Lock", "internal/race.Disable", "sync/atomic.CompareAndSwapInt32", "internal/race.Enable", "internal/race.Acquire", "(*internal/sync.Mutex).lockSlow", "internal/sync.runtime_canSpin", "internal/sync.runtime_doSpin", "internal/sync.throw", "internal/sync.runtime_nanotime", "internal/sync.runtime_SemacquireMutex", "sync/atomic.AddInt32", "(*internal/sync.Mutex).Unlock", "internal/race.ReleaseMerge", "(*internal/sync.Mutex).unlockSlow", "internal/sync.fatal", "internal/sync.runtime_Semrelease", "sync/atomic.StoreUint32", "sync/atomic.LoadInt64"], unfollowed := true, recurses := true, apart := false, narrowed := true }
def RunPrepUptoSaid : Prop := runPrepUptoRow.holds Tryz.pinned (OpenSpec.upto runPrepSpec)

/-- 'vinculumlaw23.EngineSame', WHERE WHAT IT READS IS OF BULK AT MOST 1048576: true; the input reads as it did. -/
def engineSameUptoRow : OpenClaim := { program := "ytbefcdjcefmicaagreat", sum := "1ea8ce174927be488b1b54c5f95be720d17eddd7838683f6d47617ba2039e910", func := "vinculum/vinculumlaw23.EngineSame", spec := "engineSame", inPlace := ["sync/atomic.LoadUint64", "sync/atomic.AddInt64", "sync/atomic.CompareAndSwapUint64", "sync/atomic.StoreUint64", "sync/atomic.LoadUint32", "(*internal/sync.Mutex).Lock", "internal/race.Disable", "sync/atomic.CompareAndSwapInt32", "internal/race.Enable", "internal/race.Acquire", "(*internal/sync.Mutex).lockSlow", "internal/sync.runtime_canSpin", "internal/sync.runtime_doSpin", "internal/sync.throw", "internal/sync.runtime_nanotime", "internal/sync.runtime_SemacquireMutex", "sync/atomic.AddInt32", "(*internal/sync.Mutex).Unlock", "internal/race.ReleaseMerge", "(*internal/sync.Mutex).unlockSlow", "internal/sync.fatal", "internal/sync.runtime_Semrelease", "sync/atomic.StoreUint32", "sync/atomic.LoadInt64"], unfollowed := true, recurses := true, apart := false, narrowed := true }
def EngineSameUptoSaid : Prop := engineSameUptoRow.holds Tryz.pinned (OpenSpec.upto engineSameSpec)

/-- 'vinculumlaw23.EngineRefuses', WHERE WHAT IT READS IS OF BULK AT MOST 1048576: true; the input reads as it did. -/
def engineRefusesUptoRow : OpenClaim := { program := "ytbefcdjcefmicaagreat", sum := "1ea8ce174927be488b1b54c5f95be720d17eddd7838683f6d47617ba2039e910", func := "vinculum/vinculumlaw23.EngineRefuses", spec := "engineRefuses", inPlace := ["sync/atomic.LoadUint64", "sync/atomic.AddInt64", "sync/atomic.CompareAndSwapUint64", "sync/atomic.StoreUint64", "sync/atomic.LoadUint32", "(*internal/sync.Mutex).Lock", "internal/race.Disable", "sync/atomic.CompareAndSwapInt32", "internal/race.Enable", "internal/race.Acquire", "(*internal/sync.Mutex).lockSlow", "internal/sync.runtime_canSpin", "internal/sync.runtime_doSpin", "internal/sync.throw", "internal/sync.runtime_nanotime", "internal/sync.runtime_SemacquireMutex", "sync/atomic.AddInt32", "(*internal/sync.Mutex).Unlock", "internal/race.ReleaseMerge", "(*internal/sync.Mutex).unlockSlow", "internal/sync.fatal", "internal/sync.runtime_Semrelease", "sync/atomic.StoreUint32", "sync/atomic.LoadInt64"], unfollowed := true, recurses := true, apart := false, narrowed := true }
def EngineRefusesUptoSaid : Prop := engineRefusesUptoRow.holds Tryz.pinned (OpenSpec.upto engineRefusesSpec)

/-- 'vinculumlaw24.RunFull', WHERE WHAT IT READS IS OF BULK AT MOST 1048576: true; the input reads as it did. -/
def runFullUptoRow : OpenClaim := { program := "ytbefcdjcefmicaagreat", sum := "1ea8ce174927be488b1b54c5f95be720d17eddd7838683f6d47617ba2039e910", func := "vinculum/vinculumlaw24.RunFull", spec := "runFull", inPlace := ["sync/atomic.AddInt64", "sync/atomic.LoadUint64", "sync/atomic.CompareAndSwapUint64", "sync/atomic.StoreUint64", "sync/atomic.LoadUint32", "(*internal/sync.Mutex).Lock", "internal/race.Disable", "sync/atomic.CompareAndSwapInt32", "internal/race.Enable", "internal/race.Acquire", "(*internal/sync.Mutex).lockSlow", "internal/sync.runtime_canSpin", "internal/sync.runtime_doSpin", "internal/sync.throw", "internal/sync.runtime_nanotime", "internal/sync.runtime_SemacquireMutex", "sync/atomic.AddInt32", "(*internal/sync.Mutex).Unlock", "internal/race.ReleaseMerge", "(*internal/sync.Mutex).unlockSlow", "internal/sync.fatal", "internal/sync.runtime_Semrelease", "sync/atomic.StoreUint32", "sync/atomic.LoadInt64"], unfollowed := true, recurses := true, apart := false, narrowed := true }
def RunFullUptoSaid : Prop := runFullUptoRow.holds Tryz.pinned (OpenSpec.upto runFullSpec)

/-- 'vinculumlaw24.RunGone', WHERE WHAT IT READS IS OF BULK AT MOST 1048576: true; the input reads as it did. -/
def runGoneUptoRow : OpenClaim := { program := "ytbefcdjcefmicaagreat", sum := "1ea8ce174927be488b1b54c5f95be720d17eddd7838683f6d47617ba2039e910", func := "vinculum/vinculumlaw24.RunGone", spec := "runGone", inPlace := ["sync/atomic.AddInt64", "sync/atomic.LoadUint64", "sync/atomic.CompareAndSwapUint64", "sync/atomic.StoreUint64", "sync/atomic.LoadUint32", "(*internal/sync.Mutex).Lock", "internal/race.Disable", "sync/atomic.CompareAndSwapInt32", "internal/race.Enable", "internal/race.Acquire", "(*internal/sync.Mutex).lockSlow", "internal/sync.runtime_canSpin", "internal/sync.runtime_doSpin", "internal/sync.throw", "internal/sync.runtime_nanotime", "internal/sync.runtime_SemacquireMutex", "sync/atomic.AddInt32", "(*internal/sync.Mutex).Unlock", "internal/race.ReleaseMerge", "(*internal/sync.Mutex).unlockSlow", "internal/sync.fatal", "internal/sync.runtime_Semrelease", "sync/atomic.StoreUint32", "sync/atomic.LoadInt64"], unfollowed := true, recurses := true, apart := false, narrowed := true }
def RunGoneUptoSaid : Prop := runGoneUptoRow.holds Tryz.pinned (OpenSpec.upto runGoneSpec)

end Rows
end Go.Proofs.YtbefcdjcefmicaaGreat
