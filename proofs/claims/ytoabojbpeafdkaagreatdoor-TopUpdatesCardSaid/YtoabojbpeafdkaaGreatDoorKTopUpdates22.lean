/- Texts of the claim TopUpdates (part 22), put together in the order of their imports. -/
import Derived.Test.YtoabojbpeafdkaaGreatDoorKTopUpdates20
set_option linter.all false
set_option maxRecDepth 100000
set_option maxHeartbeats 1000000
/- lives: it is migrated, by reckoning. -/
set_option maxRecDepth 100000
namespace Go.Proofs.YtoabojbpeafdkaaGreatDoor
open Go Go.Gam Go.Iv
theorem one_run : stOk ((mL Tryz.prog 3000).call 10 [.ptr 10 0, jobA] (ofL (gL ++ hSave) 1145)) okA (gL ++ hOne) 4951 = true := by kernel_rfl
end Go.Proofs.YtoabojbpeafdkaaGreatDoor
