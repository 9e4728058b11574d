/- A limb of the frame's closed facts of ConsoleBounds. -/
import Derived.Test.YtiimlopcifljeaaGreatDoorRows
import Derived.Test.YtiimlopcifljeaaGreatDoorProg
import Derived.ProofKit
namespace Go.Proofs.YtiimlopcifljeaaGreatDoor.consoleBounds
open Go
theorem f_inPlace : Tryz.prog.inPlace 5 = Rows.consoleBoundsRow.inPlace := by kernel_rfl
end Go.Proofs.YtiimlopcifljeaaGreatDoor.consoleBounds
