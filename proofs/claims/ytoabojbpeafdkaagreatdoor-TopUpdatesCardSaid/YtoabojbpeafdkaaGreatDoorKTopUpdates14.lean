/- Texts of the claim TopUpdates (part 14), put together in the order of their imports. -/
import Derived.Test.YtoabojbpeafdkaaGreatDoorKTopUpdates12
set_option linter.all false
set_option maxRecDepth 100000
set_option maxHeartbeats 1000000
/- Parity rows, by reckoning: the inverses of fewer rows of powers. -/
set_option maxRecDepth 100000
namespace Go.Proofs.YtoabojbpeafdkaaGreatDoor
open Go Go.Gam Go.Iv
theorem inv_1 : invOk Tryz.prog 1 = true := by kernel_rfl
theorem inv_2 : invOk Tryz.prog 2 = true := by kernel_rfl
theorem inv_3 : invOk Tryz.prog 3 = true := by kernel_rfl
theorem inv_4 : invOk Tryz.prog 4 = true := by kernel_rfl
theorem inv_5 : invOk Tryz.prog 5 = true := by kernel_rfl
theorem inv_6 : invOk Tryz.prog 6 = true := by kernel_rfl
theorem inv_7 : invOk Tryz.prog 7 = true := by kernel_rfl
end Go.Proofs.YtoabojbpeafdkaaGreatDoor
