/- Texts of the claim TopUpdates (part 21), put together in the order of their imports. -/
import Derived.Test.YtoabojbpeafdkaaGreatDoorKTopUpdates20
set_option linter.all false
set_option maxRecDepth 100000
set_option maxHeartbeats 1000000
/- lives: an object is saved, by reckoning. -/
set_option maxRecDepth 100000
namespace Go.Proofs.YtoabojbpeafdkaaGreatDoor
open Go Go.Gam Go.Iv
theorem save_run : stOk ((mL Tryz.prog 3000).call 26 argS (ofL (gL ++ hS0) 12)) okA (gL ++ hSave) 1145 = true := by kernel_rfl
end Go.Proofs.YtoabojbpeafdkaaGreatDoor
