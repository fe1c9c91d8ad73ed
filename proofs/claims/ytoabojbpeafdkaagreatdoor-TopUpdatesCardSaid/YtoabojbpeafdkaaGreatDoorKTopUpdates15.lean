/- Texts of the claim TopUpdates (part 15), put together in the order of their imports. -/
import Derived.Test.YtoabojbpeafdkaaGreatDoorKTopUpdates12
set_option linter.all false
set_option maxRecDepth 100000
set_option maxHeartbeats 1000000
/- Parity rows, by reckoning: three profiles. -/
set_option maxRecDepth 100000
namespace Go.Proofs.YtoabojbpeafdkaaGreatDoor
open Go Go.Gam Go.Iv
theorem par_2_12345_1234 : rng Tryz.prog 2 [1, 2, 3, 4, 5] [1, 2, 3, 4] = true := by kernel_rfl
theorem par_2_678_1234 : rng Tryz.prog 2 [6, 7, 8] [1, 2, 3, 4] = true := by kernel_rfl
theorem par_3_12345_123 : rng Tryz.prog 3 [1, 2, 3, 4, 5] [1, 2, 3] = true := by kernel_rfl
theorem par_3_678_123 : rng Tryz.prog 3 [6, 7, 8] [1, 2, 3] = true := by kernel_rfl
theorem par_4_12345_1234 : rng Tryz.prog 4 [1, 2, 3, 4, 5] [1, 2, 3, 4] = true := by kernel_rfl
theorem par_4_678_1234 : rng Tryz.prog 4 [6, 7, 8] [1, 2, 3, 4] = true := by kernel_rfl
end Go.Proofs.YtoabojbpeafdkaaGreatDoor
