/- Texts of the claim TopUpdates (part 23), put together in the order of their imports. -/
import Derived.Test.YtoabojbpeafdkaaGreatDoorKTopUpdates20
set_option linter.all false
set_option maxRecDepth 100000
set_option maxHeartbeats 1000000
/- lives: it is told, by reckoning. -/
set_option maxRecDepth 100000
namespace Go.Proofs.YtoabojbpeafdkaaGreatDoor
open Go Go.Gam Go.Iv
theorem obj_run : stOk ((mL Tryz.prog 3000).call 11 [.ptr 10 0, .str [97, 98, 99]] (ofL (gL ++ hOne) 4951)) resA (gL ++ hObj) 5335 = true := by kernel_rfl
theorem lives_run : stOk ((mM Tryz.prog 300).call 6 [] (ofL gL 10)) (.bool true) [] 5335 = true := by kernel_rfl
end Go.Proofs.YtoabojbpeafdkaaGreatDoor
