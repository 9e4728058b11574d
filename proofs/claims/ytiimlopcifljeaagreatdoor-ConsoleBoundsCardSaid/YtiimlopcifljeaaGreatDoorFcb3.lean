/- A limb of the frame's closed facts of ConsoleBounds. -/
import Derived.Test.YtiimlopcifljeaaGreatDoorRows
import Derived.Test.YtiimlopcifljeaaGreatDoorProg
import Derived.ProofKit
namespace Go.Proofs.YtiimlopcifljeaaGreatDoor.consoleBounds
open Go
theorem f_varsNamed : Tryz.prog.varsNamed 5 = Rows.consoleBoundsRow.named := by kernel_rfl
end Go.Proofs.YtiimlopcifljeaaGreatDoor.consoleBounds
