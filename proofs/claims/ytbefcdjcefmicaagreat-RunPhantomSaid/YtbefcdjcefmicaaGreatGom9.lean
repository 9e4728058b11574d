/- Texts of this claim, laid together: Ph7. -/
import Derived.Test.YtbefcdjcefmicaaGreatGom1
namespace Go.Proofs.YtbefcdjcefmicaaGreat.Em
open Go.ChangeShapes Go.WideShapes Go.ChangeAt Go.RowKit En
set_option linter.unusedVariables false
set_option linter.unusedSimpArgs false
set_option maxRecDepth 100000
set_option maxHeartbeats 1600000
theorem ph_2_17_30 : phRun 2 17 30 = true := by decide +kernel
theorem ph_2_17_31 : phRun 2 17 31 = true := by decide +kernel
theorem ph_2_17_32 : phRun 2 17 32 = true := by decide +kernel
theorem ph_2_17_33 : phRun 2 17 33 = true := by decide +kernel
theorem ph_2_17_34 : phRun 2 17 34 = true := by decide +kernel
theorem ph_2_17_35 : phRun 2 17 35 = true := by decide +kernel
theorem ph_2_17_36 : phRun 2 17 36 = true := by decide +kernel
theorem ph_2_17_37 : phRun 2 17 37 = true := by decide +kernel
theorem ph_3_17_30 : phRun 3 17 30 = true := by decide +kernel
theorem ph_3_17_31 : phRun 3 17 31 = true := by decide +kernel
theorem ph_3_17_32 : phRun 3 17 32 = true := by decide +kernel
theorem ph_3_17_33 : phRun 3 17 33 = true := by decide +kernel
theorem ph_3_17_34 : phRun 3 17 34 = true := by decide +kernel
theorem ph_3_17_35 : phRun 3 17 35 = true := by decide +kernel
theorem ph_3_17_36 : phRun 3 17 36 = true := by decide +kernel
theorem ph_3_17_37 : phRun 3 17 37 = true := by decide +kernel
end Go.Proofs.YtbefcdjcefmicaaGreat.Em