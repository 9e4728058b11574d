/- Texts of this claim, laid together: Ph3. -/
import Derived.Test.YtbefcdjcefmicaaGreatGom1
namespace Go.Proofs.YtbefcdjcefmicaaGreat.Em
open Go.ChangeShapes Go.WideShapes Go.ChangeAt Go.RowKit En
set_option linter.unusedVariables false
set_option linter.unusedSimpArgs false
set_option maxRecDepth 100000
set_option maxHeartbeats 1600000
theorem ph_2_13_30 : phRun 2 13 30 = true := by decide +kernel
theorem ph_2_13_31 : phRun 2 13 31 = true := by decide +kernel
theorem ph_2_13_32 : phRun 2 13 32 = true := by decide +kernel
theorem ph_2_13_33 : phRun 2 13 33 = true := by decide +kernel
theorem ph_2_13_34 : phRun 2 13 34 = true := by decide +kernel
theorem ph_2_13_35 : phRun 2 13 35 = true := by decide +kernel
theorem ph_2_13_36 : phRun 2 13 36 = true := by decide +kernel
theorem ph_2_13_37 : phRun 2 13 37 = true := by decide +kernel
theorem ph_3_13_30 : phRun 3 13 30 = true := by decide +kernel
theorem ph_3_13_31 : phRun 3 13 31 = true := by decide +kernel
theorem ph_3_13_32 : phRun 3 13 32 = true := by decide +kernel
theorem ph_3_13_33 : phRun 3 13 33 = true := by decide +kernel
theorem ph_3_13_34 : phRun 3 13 34 = true := by decide +kernel
theorem ph_3_13_35 : phRun 3 13 35 = true := by decide +kernel
theorem ph_3_13_36 : phRun 3 13 36 = true := by decide +kernel
theorem ph_3_13_37 : phRun 3 13 37 = true := by decide +kernel
end Go.Proofs.YtbefcdjcefmicaaGreat.Em