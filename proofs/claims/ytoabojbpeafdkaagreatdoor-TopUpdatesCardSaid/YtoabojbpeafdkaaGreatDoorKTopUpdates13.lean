/- Texts of the claim TopUpdates (part 13), put together in the order of their imports. -/
import Derived.Test.YtoabojbpeafdkaaGreatDoorKTopUpdates12
set_option linter.all false
set_option maxRecDepth 100000
set_option maxHeartbeats 1000000
/- Parity rows, by reckoning: the inverse of eight rows of powers. -/
set_option maxRecDepth 100000
namespace Go.Proofs.YtoabojbpeafdkaaGreatDoor
open Go Go.Gam Go.Iv
theorem inv_8 : invOk Tryz.prog 8 = true := by kernel_rfl
end Go.Proofs.YtoabojbpeafdkaaGreatDoor
