/- A limb of the frame's closed facts of ConsoleParses. -/
import Derived.Test.YtiimlopcifljeaaGreatDoorRows
import Derived.Test.YtiimlopcifljeaaGreatDoorProg
import Derived.ProofKit
namespace Go.Proofs.YtiimlopcifljeaaGreatDoor.consoleParses
open Go
theorem f_recurses : Tryz.prog.recurses 4 = true := by kernel_rfl
end Go.Proofs.YtiimlopcifljeaaGreatDoor.consoleParses
