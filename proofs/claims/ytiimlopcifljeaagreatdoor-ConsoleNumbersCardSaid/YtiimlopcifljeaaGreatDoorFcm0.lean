/- A limb of the frame's closed facts of ConsoleNumbers. -/
import Derived.Test.YtiimlopcifljeaaGreatDoorRows
import Derived.Test.YtiimlopcifljeaaGreatDoorProg
import Derived.ProofKit
namespace Go.Proofs.YtiimlopcifljeaaGreatDoor.consoleNumbers
open Go
theorem f_inPlace : Tryz.prog.inPlace 3 = Rows.consoleNumbersRow.inPlace := by kernel_rfl
end Go.Proofs.YtiimlopcifljeaaGreatDoor.consoleNumbers
