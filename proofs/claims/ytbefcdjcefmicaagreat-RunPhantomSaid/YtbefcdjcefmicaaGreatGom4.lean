/- Texts of this claim, laid together: Ph2. -/
import Derived.Test.YtbefcdjcefmicaaGreatGom1
namespace Go.Proofs.YtbefcdjcefmicaaGreat.Em
open Go.ChangeShapes Go.WideShapes Go.ChangeAt Go.RowKit En
set_option linter.unusedVariables false
set_option linter.unusedSimpArgs false
set_option maxRecDepth 100000
set_option maxHeartbeats 1600000
theorem ph_2_12_30 : phRun 2 12 30 = true := by decide +kernel
theorem ph_2_12_31 : phRun 2 12 31 = true := by decide +kernel
theorem ph_2_12_32 : phRun 2 12 32 = true := by decide +kernel
theorem ph_2_12_33 : phRun 2 12 33 = true := by decide +kernel
theorem ph_2_12_34 : phRun 2 12 34 = true := by decide +kernel
theorem ph_2_12_35 : phRun 2 12 35 = true := by decide +kernel
theorem ph_2_12_36 : phRun 2 12 36 = true := by decide +kernel
theorem ph_2_12_37 : phRun 2 12 37 = true := by decide +kernel
theorem ph_3_12_30 : phRun 3 12 30 = true := by decide +kernel
theorem ph_3_12_31 : phRun 3 12 31 = true := by decide +kernel
theorem ph_3_12_32 : phRun 3 12 32 = true := by decide +kernel
theorem ph_3_12_33 : phRun 3 12 33 = true := by decide +kernel
theorem ph_3_12_34 : phRun 3 12 34 = true := by decide +kernel
theorem ph_3_12_35 : phRun 3 12 35 = true := by decide +kernel
theorem ph_3_12_36 : phRun 3 12 36 = true := by decide +kernel
theorem ph_3_12_37 : phRun 3 12 37 = true := by decide +kernel
end Go.Proofs.YtbefcdjcefmicaaGreat.Em