/- Texts of this claim, laid together: Ph1. -/
import Derived.Test.YtbefcdjcefmicaaGreatGom1
namespace Go.Proofs.YtbefcdjcefmicaaGreat.Em
open Go.ChangeShapes Go.WideShapes Go.ChangeAt Go.RowKit En
set_option linter.unusedVariables false
set_option linter.unusedSimpArgs false
set_option maxRecDepth 100000
set_option maxHeartbeats 1600000
theorem ph_2_11_30 : phRun 2 11 30 = true := by decide +kernel
theorem ph_2_11_31 : phRun 2 11 31 = true := by decide +kernel
theorem ph_2_11_32 : phRun 2 11 32 = true := by decide +kernel
theorem ph_2_11_33 : phRun 2 11 33 = true := by decide +kernel
theorem ph_2_11_34 : phRun 2 11 34 = true := by decide +kernel
theorem ph_2_11_35 : phRun 2 11 35 = true := by decide +kernel
theorem ph_2_11_36 : phRun 2 11 36 = true := by decide +kernel
theorem ph_2_11_37 : phRun 2 11 37 = true := by decide +kernel
theorem ph_3_11_30 : phRun 3 11 30 = true := by decide +kernel
theorem ph_3_11_31 : phRun 3 11 31 = true := by decide +kernel
theorem ph_3_11_32 : phRun 3 11 32 = true := by decide +kernel
theorem ph_3_11_33 : phRun 3 11 33 = true := by decide +kernel
theorem ph_3_11_34 : phRun 3 11 34 = true := by decide +kernel
theorem ph_3_11_35 : phRun 3 11 35 = true := by decide +kernel
theorem ph_3_11_36 : phRun 3 11 36 = true := by decide +kernel
theorem ph_3_11_37 : phRun 3 11 37 = true := by decide +kernel
end Go.Proofs.YtbefcdjcefmicaaGreat.Em