/- A limb of the frame's closed facts of ConsoleNumbers. -/
import Derived.Test.YtiimlopcifljeaaGreatDoorRows
import Derived.Test.YtiimlopcifljeaaGreatDoorProg
import Derived.ProofKit
namespace Go.Proofs.YtiimlopcifljeaaGreatDoor.consoleNumbers
open Go
theorem f_varsNamed : Tryz.prog.varsNamed 3 = Rows.consoleNumbersRow.named := by kernel_rfl
end Go.Proofs.YtiimlopcifljeaaGreatDoor.consoleNumbers
