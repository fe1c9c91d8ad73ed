/- Texts of the claim TopUpdates (part 16), put together in the order of their imports. -/
import Derived.Test.YtoabojbpeafdkaaGreatDoorKTopUpdates12
set_option linter.all false
set_option maxRecDepth 100000
set_option maxHeartbeats 1000000
/- Parity rows, by reckoning: two profiles. -/
set_option maxRecDepth 100000
namespace Go.Proofs.YtoabojbpeafdkaaGreatDoor
open Go Go.Gam Go.Iv
theorem par_5_1234_1234 : rng Tryz.prog 5 [1, 2, 3, 4] [1, 2, 3, 4] = true := by kernel_rfl
theorem par_5_56_1234 : rng Tryz.prog 5 [5, 6] [1, 2, 3, 4] = true := by kernel_rfl
theorem par_5_78_1234 : rng Tryz.prog 5 [7, 8] [1, 2, 3, 4] = true := by kernel_rfl
theorem par_6_1234_1234 : rng Tryz.prog 6 [1, 2, 3, 4] [1, 2, 3, 4] = true := by kernel_rfl
theorem par_6_56_1234 : rng Tryz.prog 6 [5, 6] [1, 2, 3, 4] = true := by kernel_rfl
theorem par_6_78_1234 : rng Tryz.prog 6 [7, 8] [1, 2, 3, 4] = true := by kernel_rfl
end Go.Proofs.YtoabojbpeafdkaaGreatDoor
