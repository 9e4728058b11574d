/-
  No cell of these rows narrows 'for every input' (looked for: loops, veiled, ifaces, maps, wideKeys, modest, calm, conditions, laid).
  DERIVED. THE GIVEN ROWS OF THIS SEAT. 6 by the template 'for every input the law returns true; each argument reads behind the call as it read before'; 0 by the template 'total and deterministic' (their statements: YtpkenfnmkpmapaaGreatTotals.lean).
  GIVEN WITH THE SEED: the statements are not yours to turn. If you find one false, say at which input.
  Laid BY PROGRAM, IN A SANDBOX (cutbox-rows.mjs): the forced cells as the released guide's own fill.sh prints them over the translation fd7650fcaf067a8b… (all of the seat's roots in one cut). By AI agents, Wed Nov 11 2026. No macro, syntax, notation, axiom, sorry.
-/
import Derived.Test.YtpkenfnmkpmapaaGreatChecked
import GoSem.Claim
import GoSem.ClaimJoined
import GoSem.ClaimMapViews
import Derived.JoinedTies
import Derived.KernelRfl
namespace Go.Proofs.YtpkenfnmkpmapaaGreat
/- THE CELL 'sum', in the pinned program and in every row, IS THE sha256 OF THE DUMP (.gsa) THAT YtpkenfnmkpmapaaGreatProg.lean LOADS. Nothing in Lean hashes anything: it is a label: what it is worth is what the hold of that sum in a sandbox is worth. -/
noncomputable def Tryz.pinned : Pinned := { name := "ytpkenfnmkpmapaagreat", sum := "fd7650fcaf067a8b852c9df3851b44234731736b6ac3fe354df96cbb8260c307", checked := Tryz.checked }
namespace Rows
def none {H : Type} : Left H := { results := [], args := [] }

/-- 'vinculumlaw23.EngineReads': WHATEVER THE INPUT: true; the input reads as it did. -/
def engineReadsSpec : ChangeSpec := { name := "engineReads", fn := fun _ => fun
  | [d1, d2, d3, d4] => { results := [.lit (.bool true)], args := [d1, d2, d3, d4] }
  | _ => none }
def engineReadsRow : OpenClaim := { program := "ytpkenfnmkpmapaagreat", sum := "fd7650fcaf067a8b852c9df3851b44234731736b6ac3fe354df96cbb8260c307", func := "vinculum/vinculumlaw23.EngineReads", spec := "engineReads", inPlace := ["sync/atomic.LoadUint64", "sync/atomic.AddInt64", "sync/atomic.CompareAndSwapUint64", "sync/atomic.StoreUint64", "sync/atomic.LoadUint32", "(*internal/sync.Mutex).Lock", "internal/race.Disable", "sync/atomic.CompareAndSwapInt32", "internal/race.Enable", "internal/race.Acquire", "(*internal/sync.Mutex).lockSlow", "internal/sync.runtime_canSpin", "internal/sync.runtime_doSpin", "internal/sync.throw", "internal/sync.runtime_nanotime", "internal/sync.runtime_SemacquireMutex", "sync/atomic.AddInt32", "(*internal/sync.Mutex).Unlock", "internal/race.ReleaseMerge", "(*internal/sync.Mutex).unlockSlow", "internal/sync.fatal", "internal/sync.runtime_Semrelease", "sync/atomic.StoreUint32", "sync/atomic.LoadInt64"], unfollowed := true, recurses := true, apart := false }
def EngineReadsSaid : Prop := engineReadsRow.holds Tryz.pinned (OpenSpec.ofChange engineReadsSpec)

/-- ITS FALSE NEIGHBOUR: 'it returns false'. Refute it at one input. -/
def engineReadsWrong : ChangeSpec := { name := "engineReads", fn := fun _ => fun
  | [d1, d2, d3, d4] => { results := [.lit (.bool false)], args := [d1, d2, d3, d4] }
  | _ => none }
def EngineReadsWrongFalsely : Prop := engineReadsRow.holds Tryz.pinned (OpenSpec.ofChange engineReadsWrong)

/-- 'vinculumlaw23.EngineTurns': WHATEVER THE INPUT: true; the input reads as it did. -/
def engineTurnsSpec : ChangeSpec := { name := "engineTurns", fn := fun _ => fun
  | [d1, d2, d3] => { results := [.lit (.bool true)], args := [d1, d2, d3] }
  | _ => none }
def engineTurnsRow : OpenClaim := { program := "ytpkenfnmkpmapaagreat", sum := "fd7650fcaf067a8b852c9df3851b44234731736b6ac3fe354df96cbb8260c307", func := "vinculum/vinculumlaw23.EngineTurns", spec := "engineTurns", inPlace := ["sync/atomic.LoadUint64", "sync/atomic.AddInt64", "sync/atomic.CompareAndSwapUint64", "sync/atomic.StoreUint64", "sync/atomic.LoadUint32", "(*internal/sync.Mutex).Lock", "internal/race.Disable", "sync/atomic.CompareAndSwapInt32", "internal/race.Enable", "internal/race.Acquire", "(*internal/sync.Mutex).lockSlow", "internal/sync.runtime_canSpin", "internal/sync.runtime_doSpin", "internal/sync.throw", "internal/sync.runtime_nanotime", "internal/sync.runtime_SemacquireMutex", "sync/atomic.AddInt32", "(*internal/sync.Mutex).Unlock", "internal/race.ReleaseMerge", "(*internal/sync.Mutex).unlockSlow", "internal/sync.fatal", "internal/sync.runtime_Semrelease", "sync/atomic.StoreUint32", "sync/atomic.LoadInt64"], unfollowed := true, recurses := true, apart := false }
def EngineTurnsSaid : Prop := engineTurnsRow.holds Tryz.pinned (OpenSpec.ofChange engineTurnsSpec)

/-- ITS FALSE NEIGHBOUR: 'it returns false'. Refute it at one input. -/
def engineTurnsWrong : ChangeSpec := { name := "engineTurns", fn := fun _ => fun
  | [d1, d2, d3] => { results := [.lit (.bool false)], args := [d1, d2, d3] }
  | _ => none }
def EngineTurnsWrongFalsely : Prop := engineTurnsRow.holds Tryz.pinned (OpenSpec.ofChange engineTurnsWrong)

/-- 'vinculumlaw24.RunAlone': WHATEVER THE INPUT: true; the input reads as it did. -/
def runAloneSpec : ChangeSpec := { name := "runAlone", fn := fun _ => fun
  | [d1, d2] => { results := [.lit (.bool true)], args := [d1, d2] }
  | _ => none }
def runAloneRow : OpenClaim := { program := "ytpkenfnmkpmapaagreat", sum := "fd7650fcaf067a8b852c9df3851b44234731736b6ac3fe354df96cbb8260c307", func := "vinculum/vinculumlaw24.RunAlone", spec := "runAlone", inPlace := ["sync/atomic.AddInt64", "sync/atomic.LoadUint64", "sync/atomic.CompareAndSwapUint64", "sync/atomic.StoreUint64", "sync/atomic.LoadUint32", "(*internal/sync.Mutex).Lock", "internal/race.Disable", "sync/atomic.CompareAndSwapInt32", "internal/race.Enable", "internal/race.Acquire", "(*internal/sync.Mutex).lockSlow", "internal/sync.runtime_canSpin", "internal/sync.runtime_doSpin", "internal/sync.throw", "internal/sync.runtime_nanotime", "internal/sync.runtime_SemacquireMutex", "sync/atomic.AddInt32", "(*internal/sync.Mutex).Unlock", "internal/race.ReleaseMerge", "(*internal/sync.Mutex).unlockSlow", "internal/sync.fatal", "internal/sync.runtime_Semrelease", "sync/atomic.StoreUint32", "sync/atomic.LoadInt64"], unfollowed := true, recurses := true, apart := false }
def RunAloneSaid : Prop := runAloneRow.holds Tryz.pinned (OpenSpec.ofChange runAloneSpec)

/-- ITS FALSE NEIGHBOUR: 'it returns false'. Refute it at one input. -/
def runAloneWrong : ChangeSpec := { name := "runAlone", fn := fun _ => fun
  | [d1, d2] => { results := [.lit (.bool false)], args := [d1, d2] }
  | _ => none }
def RunAloneWrongFalsely : Prop := runAloneRow.holds Tryz.pinned (OpenSpec.ofChange runAloneWrong)

/-- 'vinculumlaw24.RunSkew': WHATEVER THE INPUT: true; the input reads as it did. -/
def runSkewSpec : ChangeSpec := { name := "runSkew", fn := fun _ => fun
  | [d1, d2, d3] => { results := [.lit (.bool true)], args := [d1, d2, d3] }
  | _ => none }
def runSkewRow : OpenClaim := { program := "ytpkenfnmkpmapaagreat", sum := "fd7650fcaf067a8b852c9df3851b44234731736b6ac3fe354df96cbb8260c307", func := "vinculum/vinculumlaw24.RunSkew", spec := "runSkew", inPlace := ["sync/atomic.AddInt64", "sync/atomic.LoadUint64", "sync/atomic.CompareAndSwapUint64", "sync/atomic.StoreUint64", "sync/atomic.LoadUint32", "(*internal/sync.Mutex).Lock", "internal/race.Disable", "sync/atomic.CompareAndSwapInt32", "internal/race.Enable", "internal/race.Acquire", "(*internal/sync.Mutex).lockSlow", "internal/sync.runtime_canSpin", "internal/sync.runtime_doSpin", "internal/sync.throw", "internal/sync.runtime_nanotime", "internal/sync.runtime_SemacquireMutex", "sync/atomic.AddInt32", "(*internal/sync.Mutex).Unlock", "internal/race.ReleaseMerge", "(*internal/sync.Mutex).unlockSlow", "internal/sync.fatal", "internal/sync.runtime_Semrelease", "sync/atomic.StoreUint32", "sync/atomic.LoadInt64"], unfollowed := true, recurses := true, apart := false }
def RunSkewSaid : Prop := runSkewRow.holds Tryz.pinned (OpenSpec.ofChange runSkewSpec)

/-- ITS FALSE NEIGHBOUR: 'it returns false'. Refute it at one input. -/
def runSkewWrong : ChangeSpec := { name := "runSkew", fn := fun _ => fun
  | [d1, d2, d3] => { results := [.lit (.bool false)], args := [d1, d2, d3] }
  | _ => none }
def RunSkewWrongFalsely : Prop := runSkewRow.holds Tryz.pinned (OpenSpec.ofChange runSkewWrong)

/-- 'vinculumlaw23.EngineTimes': WHATEVER THE INPUT: true; the input reads as it did. -/
def engineTimesSpec : ChangeSpec := { name := "engineTimes", fn := fun _ => fun
  | [d] => { results := [.lit (.bool true)], args := [d] }
  | _ => none }
def engineTimesRow : OpenClaim := { program := "ytpkenfnmkpmapaagreat", sum := "fd7650fcaf067a8b852c9df3851b44234731736b6ac3fe354df96cbb8260c307", func := "vinculum/vinculumlaw23.EngineTimes", spec := "engineTimes", inPlace := ["sync/atomic.LoadUint64", "sync/atomic.AddInt64", "sync/atomic.CompareAndSwapUint64", "sync/atomic.StoreUint64", "sync/atomic.LoadUint32", "(*internal/sync.Mutex).Lock", "internal/race.Disable", "sync/atomic.CompareAndSwapInt32", "internal/race.Enable", "internal/race.Acquire", "(*internal/sync.Mutex).lockSlow", "internal/sync.runtime_canSpin", "internal/sync.runtime_doSpin", "internal/sync.throw", "internal/sync.runtime_nanotime", "internal/sync.runtime_SemacquireMutex", "sync/atomic.AddInt32", "(*internal/sync.Mutex).Unlock", "internal/race.ReleaseMerge", "(*internal/sync.Mutex).unlockSlow", "internal/sync.fatal", "internal/sync.runtime_Semrelease", "sync/atomic.StoreUint32", "sync/atomic.LoadInt64"], unfollowed := true, recurses := true, apart := false }
def EngineTimesSaid : Prop := engineTimesRow.holds Tryz.pinned (OpenSpec.ofChange engineTimesSpec)

/-- ITS FALSE NEIGHBOUR: 'it returns false'. Refute it at one input. -/
def engineTimesWrong : ChangeSpec := { name := "engineTimes", fn := fun _ => fun
  | [d] => { results := [.lit (.bool false)], args := [d] }
  | _ => none }
def EngineTimesWrongFalsely : Prop := engineTimesRow.holds Tryz.pinned (OpenSpec.ofChange engineTimesWrong)

/-- 'vinculumlaw24.RunEnds': WHATEVER THE INPUT: true; the input reads as it did. -/
def runEndsSpec : ChangeSpec := { name := "runEnds", fn := fun _ => fun
  | [d1, d2, d3] => { results := [.lit (.bool true)], args := [d1, d2, d3] }
  | _ => none }
def runEndsRow : OpenClaim := { program := "ytpkenfnmkpmapaagreat", sum := "fd7650fcaf067a8b852c9df3851b44234731736b6ac3fe354df96cbb8260c307", func := "vinculum/vinculumlaw24.RunEnds", spec := "runEnds", inPlace := ["sync/atomic.AddInt64", "sync/atomic.LoadUint64", "sync/atomic.CompareAndSwapUint64", "sync/atomic.StoreUint64", "sync/atomic.LoadUint32", "(*internal/sync.Mutex).Lock", "internal/race.Disable", "sync/atomic.CompareAndSwapInt32", "internal/race.Enable", "internal/race.Acquire", "(*internal/sync.Mutex).lockSlow", "internal/sync.runtime_canSpin", "internal/sync.runtime_doSpin", "internal/sync.throw", "internal/sync.runtime_nanotime", "internal/sync.runtime_SemacquireMutex", "sync/atomic.AddInt32", "(*internal/sync.Mutex).Unlock", "internal/race.ReleaseMerge", "(*internal/sync.Mutex).unlockSlow", "internal/sync.fatal", "internal/sync.runtime_Semrelease", "sync/atomic.StoreUint32", "sync/atomic.LoadInt64"], unfollowed := true, recurses := true, apart := false }
def RunEndsSaid : Prop := runEndsRow.holds Tryz.pinned (OpenSpec.ofChange runEndsSpec)

/-- ITS FALSE NEIGHBOUR: 'it returns false'. Refute it at one input. -/
def runEndsWrong : ChangeSpec := { name := "runEnds", fn := fun _ => fun
  | [d1, d2, d3] => { results := [.lit (.bool false)], args := [d1, d2, d3] }
  | _ => none }
def RunEndsWrongFalsely : Prop := runEndsRow.holds Tryz.pinned (OpenSpec.ofChange runEndsWrong)

/- THE SECOND FORM. 'bulk': how many values and letters a reading holds, each counted each time it is reached (what is shared counts as often as it is met; a slice's spare places count too). A statement '..UptoSaid' is the law's where the arguments, and the package variables that the reading takes, are together of bulk at most 1048576: NARROWER than '..Said'. Prove '..Said' where nothing that the law and all that it calls make is longer than what came in: it says more and counts as full. Else prove '..UptoSaid'. A law counts once. -/
mutual
def uptoBulk {H : Type} : DataW H → Nat
  | .lit (.string bytes) => bytes.length + 1
  | .lit _ => 1
  | .nil => 1
  | .ptr d => uptoBulk d + 1
  | .slice elems spare => uptoBulkAll elems + uptoBulkAll spare + 1
  | .agg parts => uptoBulkAll parts + 1
  | .iface _ d => uptoBulk d + 1
  | .map entries => uptoBulkEntries entries + 1
  | .held _ => 1
def uptoBulkAll {H : Type} : List (DataW H) → Nat
  | [] => 0
  | d :: r => uptoBulk d + uptoBulkAll r
def uptoBulkEntries {H : Type} : List (Lit × DataW H) → Nat
  | [] => 0
  | x :: r => uptoBulkEntry x + uptoBulkEntries r
def uptoBulkEntry {H : Type} : Lit × DataW H → Nat
  | (.string bytes, d) => bytes.length + uptoBulk d + 1
  | (_, d) => uptoBulk d + 1
 end
def uptoSmall : (H : Type) → List (DataW H) → Bool := fun _ ds => decide (uptoBulkAll ds ≤ 1048576)
def OpenSpec.upto (s : _root_.Go.ChangeSpec) : _root_.Go.OpenSpec := { _root_.Go.OpenSpec.ofChange s with cond := some uptoSmall }

/-- 'vinculumlaw23.EngineReads', WHERE WHAT IT READS IS OF BULK AT MOST 1048576: true; the input reads as it did. -/
def engineReadsUptoRow : OpenClaim := { program := "ytpkenfnmkpmapaagreat", sum := "fd7650fcaf067a8b852c9df3851b44234731736b6ac3fe354df96cbb8260c307", func := "vinculum/vinculumlaw23.EngineReads", spec := "engineReads", inPlace := ["sync/atomic.LoadUint64", "sync/atomic.AddInt64", "sync/atomic.CompareAndSwapUint64", "sync/atomic.StoreUint64", "sync/atomic.LoadUint32", "(*internal/sync.Mutex).Lock", "internal/race.Disable", "sync/atomic.CompareAndSwapInt32", "internal/race.Enable", "internal/race.Acquire", "(*internal/sync.Mutex).lockSlow", "internal/sync.runtime_canSpin", "internal/sync.runtime_doSpin", "internal/sync.throw", "internal/sync.runtime_nanotime", "internal/sync.runtime_SemacquireMutex", "sync/atomic.AddInt32", "(*internal/sync.Mutex).Unlock", "internal/race.ReleaseMerge", "(*internal/sync.Mutex).unlockSlow", "internal/sync.fatal", "internal/sync.runtime_Semrelease", "sync/atomic.StoreUint32", "sync/atomic.LoadInt64"], unfollowed := true, recurses := true, apart := false, narrowed := true }
def EngineReadsUptoSaid : Prop := engineReadsUptoRow.holds Tryz.pinned (OpenSpec.upto engineReadsSpec)

/-- 'vinculumlaw23.EngineTurns', WHERE WHAT IT READS IS OF BULK AT MOST 1048576: true; the input reads as it did. -/
def engineTurnsUptoRow : OpenClaim := { program := "ytpkenfnmkpmapaagreat", sum := "fd7650fcaf067a8b852c9df3851b44234731736b6ac3fe354df96cbb8260c307", func := "vinculum/vinculumlaw23.EngineTurns", spec := "engineTurns", inPlace := ["sync/atomic.LoadUint64", "sync/atomic.AddInt64", "sync/atomic.CompareAndSwapUint64", "sync/atomic.StoreUint64", "sync/atomic.LoadUint32", "(*internal/sync.Mutex).Lock", "internal/race.Disable", "sync/atomic.CompareAndSwapInt32", "internal/race.Enable", "internal/race.Acquire", "(*internal/sync.Mutex).lockSlow", "internal/sync.runtime_canSpin", "internal/sync.runtime_doSpin", "internal/sync.throw", "internal/sync.runtime_nanotime", "internal/sync.runtime_SemacquireMutex", "sync/atomic.AddInt32", "(*internal/sync.Mutex).Unlock", "internal/race.ReleaseMerge", "(*internal/sync.Mutex).unlockSlow", "internal/sync.fatal", "internal/sync.runtime_Semrelease", "sync/atomic.StoreUint32", "sync/atomic.LoadInt64"], unfollowed := true, recurses := true, apart := false, narrowed := true }
def EngineTurnsUptoSaid : Prop := engineTurnsUptoRow.holds Tryz.pinned (OpenSpec.upto engineTurnsSpec)

/-- 'vinculumlaw24.RunAlone', WHERE WHAT IT READS IS OF BULK AT MOST 1048576: true; the input reads as it did. -/
def runAloneUptoRow : OpenClaim := { program := "ytpkenfnmkpmapaagreat", sum := "fd7650fcaf067a8b852c9df3851b44234731736b6ac3fe354df96cbb8260c307", func := "vinculum/vinculumlaw24.RunAlone", spec := "runAlone", inPlace := ["sync/atomic.AddInt64", "sync/atomic.LoadUint64", "sync/atomic.CompareAndSwapUint64", "sync/atomic.StoreUint64", "sync/atomic.LoadUint32", "(*internal/sync.Mutex).Lock", "internal/race.Disable", "sync/atomic.CompareAndSwapInt32", "internal/race.Enable", "internal/race.Acquire", "(*internal/sync.Mutex).lockSlow", "internal/sync.runtime_canSpin", "internal/sync.runtime_doSpin", "internal/sync.throw", "internal/sync.runtime_nanotime", "internal/sync.runtime_SemacquireMutex", "sync/atomic.AddInt32", "(*internal/sync.Mutex).Unlock", "internal/race.ReleaseMerge", "(*internal/sync.Mutex).unlockSlow", "internal/sync.fatal", "internal/sync.runtime_Semrelease", "sync/atomic.StoreUint32", "sync/atomic.LoadInt64"], unfollowed := true, recurses := true, apart := false, narrowed := true }
def RunAloneUptoSaid : Prop := runAloneUptoRow.holds Tryz.pinned (OpenSpec.upto runAloneSpec)

/-- 'vinculumlaw24.RunSkew', WHERE WHAT IT READS IS OF BULK AT MOST 1048576: true; the input reads as it did. -/
def runSkewUptoRow : OpenClaim := { program := "ytpkenfnmkpmapaagreat", sum := "fd7650fcaf067a8b852c9df3851b44234731736b6ac3fe354df96cbb8260c307", func := "vinculum/vinculumlaw24.RunSkew", spec := "runSkew", inPlace := ["sync/atomic.AddInt64", "sync/atomic.LoadUint64", "sync/atomic.CompareAndSwapUint64", "sync/atomic.StoreUint64", "sync/atomic.LoadUint32", "(*internal/sync.Mutex).Lock", "internal/race.Disable", "sync/atomic.CompareAndSwapInt32", "internal/race.Enable", "internal/race.Acquire", "(*internal/sync.Mutex).lockSlow", "internal/sync.runtime_canSpin", "internal/sync.runtime_doSpin", "internal/sync.throw", "internal/sync.runtime_nanotime", "internal/sync.runtime_SemacquireMutex", "sync/atomic.AddInt32", "(*internal/sync.Mutex).Unlock", "internal/race.ReleaseMerge", "(*internal/sync.Mutex).unlockSlow", "internal/sync.fatal", "internal/sync.runtime_Semrelease", "sync/atomic.StoreUint32", "sync/atomic.LoadInt64"], unfollowed := true, recurses := true, apart := false, narrowed := true }
def RunSkewUptoSaid : Prop := runSkewUptoRow.holds Tryz.pinned (OpenSpec.upto runSkewSpec)

/-- 'vinculumlaw23.EngineTimes', WHERE WHAT IT READS IS OF BULK AT MOST 1048576: true; the input reads as it did. -/
def engineTimesUptoRow : OpenClaim := { program := "ytpkenfnmkpmapaagreat", sum := "fd7650fcaf067a8b852c9df3851b44234731736b6ac3fe354df96cbb8260c307", func := "vinculum/vinculumlaw23.EngineTimes", spec := "engineTimes", inPlace := ["sync/atomic.LoadUint64", "sync/atomic.AddInt64", "sync/atomic.CompareAndSwapUint64", "sync/atomic.StoreUint64", "sync/atomic.LoadUint32", "(*internal/sync.Mutex).Lock", "internal/race.Disable", "sync/atomic.CompareAndSwapInt32", "internal/race.Enable", "internal/race.Acquire", "(*internal/sync.Mutex).lockSlow", "internal/sync.runtime_canSpin", "internal/sync.runtime_doSpin", "internal/sync.throw", "internal/sync.runtime_nanotime", "internal/sync.runtime_SemacquireMutex", "sync/atomic.AddInt32", "(*internal/sync.Mutex).Unlock", "internal/race.ReleaseMerge", "(*internal/sync.Mutex).unlockSlow", "internal/sync.fatal", "internal/sync.runtime_Semrelease", "sync/atomic.StoreUint32", "sync/atomic.LoadInt64"], unfollowed := true, recurses := true, apart := false, narrowed := true }
def EngineTimesUptoSaid : Prop := engineTimesUptoRow.holds Tryz.pinned (OpenSpec.upto engineTimesSpec)

/-- 'vinculumlaw24.RunEnds', WHERE WHAT IT READS IS OF BULK AT MOST 1048576: true; the input reads as it did. -/
def runEndsUptoRow : OpenClaim := { program := "ytpkenfnmkpmapaagreat", sum := "fd7650fcaf067a8b852c9df3851b44234731736b6ac3fe354df96cbb8260c307", func := "vinculum/vinculumlaw24.RunEnds", spec := "runEnds", inPlace := ["sync/atomic.AddInt64", "sync/atomic.LoadUint64", "sync/atomic.CompareAndSwapUint64", "sync/atomic.StoreUint64", "sync/atomic.LoadUint32", "(*internal/sync.Mutex).Lock", "internal/race.Disable", "sync/atomic.CompareAndSwapInt32", "internal/race.Enable", "internal/race.Acquire", "(*internal/sync.Mutex).lockSlow", "internal/sync.runtime_canSpin", "internal/sync.runtime_doSpin", "internal/sync.throw", "internal/sync.runtime_nanotime", "internal/sync.runtime_SemacquireMutex", "sync/atomic.AddInt32", "(*internal/sync.Mutex).Unlock", "internal/race.ReleaseMerge", "(*internal/sync.Mutex).unlockSlow", "internal/sync.fatal", "internal/sync.runtime_Semrelease", "sync/atomic.StoreUint32", "sync/atomic.LoadInt64"], unfollowed := true, recurses := true, apart := false, narrowed := true }
def RunEndsUptoSaid : Prop := runEndsUptoRow.holds Tryz.pinned (OpenSpec.upto runEndsSpec)

end Rows
end Go.Proofs.YtpkenfnmkpmapaaGreat
