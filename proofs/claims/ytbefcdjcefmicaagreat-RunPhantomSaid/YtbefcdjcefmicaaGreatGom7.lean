/- Texts of this claim, laid together: Ph5. -/
import Derived.Test.YtbefcdjcefmicaaGreatGom1
namespace Go.Proofs.YtbefcdjcefmicaaGreat.Em
open Go.ChangeShapes Go.WideShapes Go.ChangeAt Go.RowKit En
set_option linter.unusedVariables false
set_option linter.unusedSimpArgs false
set_option maxRecDepth 100000
set_option maxHeartbeats 1600000
theorem ph_2_15_30 : phRun 2 15 30 = true := by decide +kernel
theorem ph_2_15_31 : phRun 2 15 31 = true := by decide +kernel
theorem ph_2_15_32 : phRun 2 15 32 = true := by decide +kernel
theorem ph_2_15_33 : phRun 2 15 33 = true := by decide +kernel
theorem ph_2_15_34 : phRun 2 15 34 = true := by decide +kernel
theorem ph_2_15_35 : phRun 2 15 35 = true := by decide +kernel
theorem ph_2_15_36 : phRun 2 15 36 = true := by decide +kernel
theorem ph_2_15_37 : phRun 2 15 37 = true := by decide +kernel
theorem ph_3_15_30 : phRun 3 15 30 = true := by decide +kernel
theorem ph_3_15_31 : phRun 3 15 31 = true := by decide +kernel
theorem ph_3_15_32 : phRun 3 15 32 = true := by decide +kernel
theorem ph_3_15_33 : phRun 3 15 33 = true := by decide +kernel
theorem ph_3_15_34 : phRun 3 15 34 = true := by decide +kernel
theorem ph_3_15_35 : phRun 3 15 35 = true := by decide +kernel
theorem ph_3_15_36 : phRun 3 15 36 = true := by decide +kernel
theorem ph_3_15_37 : phRun 3 15 37 = true := by decide +kernel
end Go.Proofs.YtbefcdjcefmicaaGreat.Em