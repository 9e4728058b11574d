/- The frame's closed facts of ConsoleParses, from their limbs. -/
import Derived.Test.YtiimlopcifljeaaGreatDoorFcp0
import Derived.Test.YtiimlopcifljeaaGreatDoorFcp1
import Derived.Test.YtiimlopcifljeaaGreatDoorFcp2
import Derived.Test.YtiimlopcifljeaaGreatDoorFcp3
import Derived.JoinedOf
namespace Go.Proofs.YtiimlopcifljeaaGreatDoor.consoleParses
open Go
theorem band {a b : Bool} (h : a = true) (k : b = true) : (a && b) = true := by rw [h, k]; rfl
set_option maxRecDepth 100000 in
theorem closed : joinedFacts Tryz.prog 4 Tryz.f4 Rows.consoleParsesSpec Rows.consoleParsesRow = true := by
  unfold joinedFacts
  refine band (band (band (band (band (band (band (band (band (band (band (band (band (band (band (band (band (band (band (band (band (band (band (band (band (band (band (band (band (band (band ?k0 ?k1) ?k2) ?k3) ?k4) ?k5) ?k6) ?k7) ?k8) ?k9) ?k10) ?k11) ?k12) ?k13) ?k14) ?k15) ?k16) ?k17) ?k18) ?k19) ?k20) ?k21) ?k22) ?k23) ?k24) ?k25) ?k26) ?k27) ?k28) ?k29) ?k30) ?k31
  case k0 => kernel_rfl
  case k1 => kernel_rfl
  case k2 => kernel_rfl
  case k3 => kernel_rfl
  case k4 => kernel_rfl
  case k5 => kernel_rfl
  case k6 => kernel_rfl
  case k7 => kernel_rfl
  case k8 => kernel_rfl
  case k9 => rw [f_inPlace]; exact beq_self_eq_true _
  case k10 => rw [f_unfollowed]; rfl
  case k11 => rw [f_recurses]; rfl
  case k12 => rw [f_varsNamed]; exact beq_self_eq_true _
  case k13 => kernel_rfl
  case k14 => kernel_rfl
  case k15 => kernel_rfl
  case k16 => kernel_rfl
  case k17 => kernel_rfl
  case k18 => kernel_rfl
  case k19 => kernel_rfl
  case k20 => kernel_rfl
  case k21 => kernel_rfl
  case k22 => kernel_rfl
  case k23 => kernel_rfl
  case k24 => kernel_rfl
  case k25 => kernel_rfl
  case k26 => kernel_rfl
  case k27 => kernel_rfl
  case k28 => kernel_rfl
  case k29 => kernel_rfl
  case k30 => kernel_rfl
  case k31 => kernel_rfl
end Go.Proofs.YtiimlopcifljeaaGreatDoor.consoleParses
