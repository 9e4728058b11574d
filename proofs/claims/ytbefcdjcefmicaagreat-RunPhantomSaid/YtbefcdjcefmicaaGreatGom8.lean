/- Texts of this claim, laid together: Ph6. -/
import Derived.Test.YtbefcdjcefmicaaGreatGom1
namespace Go.Proofs.YtbefcdjcefmicaaGreat.Em
open Go.ChangeShapes Go.WideShapes Go.ChangeAt Go.RowKit En
set_option linter.unusedVariables false
set_option linter.unusedSimpArgs false
set_option maxRecDepth 100000
set_option maxHeartbeats 1600000
theorem ph_2_16_30 : phRun 2 16 30 = true := by decide +kernel
theorem ph_2_16_31 : phRun 2 16 31 = true := by decide +kernel
theorem ph_2_16_32 : phRun 2 16 32 = true := by decide +kernel
theorem ph_2_16_33 : phRun 2 16 33 = true := by decide +kernel
theorem ph_2_16_34 : phRun 2 16 34 = true := by decide +kernel
theorem ph_2_16_35 : phRun 2 16 35 = true := by decide +kernel
theorem ph_2_16_36 : phRun 2 16 36 = true := by decide +kernel
theorem ph_2_16_37 : phRun 2 16 37 = true := by decide +kernel
theorem ph_3_16_30 : phRun 3 16 30 = true := by decide +kernel
theorem ph_3_16_31 : phRun 3 16 31 = true := by decide +kernel
theorem ph_3_16_32 : phRun 3 16 32 = true := by decide +kernel
theorem ph_3_16_33 : phRun 3 16 33 = true := by decide +kernel
theorem ph_3_16_34 : phRun 3 16 34 = true := by decide +kernel
theorem ph_3_16_35 : phRun 3 16 35 = true := by decide +kernel
theorem ph_3_16_36 : phRun 3 16 36 = true := by decide +kernel
theorem ph_3_16_37 : phRun 3 16 37 = true := by decide +kernel
end Go.Proofs.YtbefcdjcefmicaaGreat.Em