/- Texts of this claim, laid together: Ph4. -/
import Derived.Test.YtbefcdjcefmicaaGreatGom1
namespace Go.Proofs.YtbefcdjcefmicaaGreat.Em
open Go.ChangeShapes Go.WideShapes Go.ChangeAt Go.RowKit En
set_option linter.unusedVariables false
set_option linter.unusedSimpArgs false
set_option maxRecDepth 100000
set_option maxHeartbeats 1600000
theorem ph_2_14_30 : phRun 2 14 30 = true := by decide +kernel
theorem ph_2_14_31 : phRun 2 14 31 = true := by decide +kernel
theorem ph_2_14_32 : phRun 2 14 32 = true := by decide +kernel
theorem ph_2_14_33 : phRun 2 14 33 = true := by decide +kernel
theorem ph_2_14_34 : phRun 2 14 34 = true := by decide +kernel
theorem ph_2_14_35 : phRun 2 14 35 = true := by decide +kernel
theorem ph_2_14_36 : phRun 2 14 36 = true := by decide +kernel
theorem ph_2_14_37 : phRun 2 14 37 = true := by decide +kernel
theorem ph_3_14_30 : phRun 3 14 30 = true := by decide +kernel
theorem ph_3_14_31 : phRun 3 14 31 = true := by decide +kernel
theorem ph_3_14_32 : phRun 3 14 32 = true := by decide +kernel
theorem ph_3_14_33 : phRun 3 14 33 = true := by decide +kernel
theorem ph_3_14_34 : phRun 3 14 34 = true := by decide +kernel
theorem ph_3_14_35 : phRun 3 14 35 = true := by decide +kernel
theorem ph_3_14_36 : phRun 3 14 36 = true := by decide +kernel
theorem ph_3_14_37 : phRun 3 14 37 = true := by decide +kernel
end Go.Proofs.YtbefcdjcefmicaaGreat.Em