/- Texts of the claim TopUpdates (part 17), put together in the order of their imports. -/
import Derived.Test.YtoabojbpeafdkaaGreatDoorKTopUpdates12
set_option linter.all false
set_option maxRecDepth 100000
set_option maxHeartbeats 1000000
/- Parity rows, by reckoning: the first profile, six data shards at most. -/
set_option maxRecDepth 100000
namespace Go.Proofs.YtoabojbpeafdkaaGreatDoor
open Go Go.Gam Go.Iv
theorem par_1_1234_1234 : rng Tryz.prog 1 [1, 2, 3, 4] [1, 2, 3, 4] = true := by kernel_rfl
theorem par_1_5_1234 : rng Tryz.prog 1 [5] [1, 2, 3, 4] = true := by kernel_rfl
theorem par_1_6_12 : rng Tryz.prog 1 [6] [1, 2] = true := by kernel_rfl
theorem par_1_6_34 : rng Tryz.prog 1 [6] [3, 4] = true := by kernel_rfl
end Go.Proofs.YtoabojbpeafdkaaGreatDoor
