/- Texts of this claim, laid together: Ph0. -/
import Derived.Test.YtbefcdjcefmicaaGreatGom1
namespace Go.Proofs.YtbefcdjcefmicaaGreat.Em
open Go.ChangeShapes Go.WideShapes Go.ChangeAt Go.RowKit En
set_option linter.unusedVariables false
set_option linter.unusedSimpArgs false
set_option maxRecDepth 100000
set_option maxHeartbeats 1600000
theorem ph_2_10_30 : phRun 2 10 30 = true := by decide +kernel
theorem ph_2_10_31 : phRun 2 10 31 = true := by decide +kernel
theorem ph_2_10_32 : phRun 2 10 32 = true := by decide +kernel
theorem ph_2_10_33 : phRun 2 10 33 = true := by decide +kernel
theorem ph_2_10_34 : phRun 2 10 34 = true := by decide +kernel
theorem ph_2_10_35 : phRun 2 10 35 = true := by decide +kernel
theorem ph_2_10_36 : phRun 2 10 36 = true := by decide +kernel
theorem ph_2_10_37 : phRun 2 10 37 = true := by decide +kernel
theorem ph_3_10_30 : phRun 3 10 30 = true := by decide +kernel
theorem ph_3_10_31 : phRun 3 10 31 = true := by decide +kernel
theorem ph_3_10_32 : phRun 3 10 32 = true := by decide +kernel
theorem ph_3_10_33 : phRun 3 10 33 = true := by decide +kernel
theorem ph_3_10_34 : phRun 3 10 34 = true := by decide +kernel
theorem ph_3_10_35 : phRun 3 10 35 = true := by decide +kernel
theorem ph_3_10_36 : phRun 3 10 36 = true := by decide +kernel
theorem ph_3_10_37 : phRun 3 10 37 = true := by decide +kernel
end Go.Proofs.YtbefcdjcefmicaaGreat.Em