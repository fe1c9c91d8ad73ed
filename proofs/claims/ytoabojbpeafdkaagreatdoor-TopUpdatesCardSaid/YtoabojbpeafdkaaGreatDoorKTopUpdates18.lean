/- Texts of the claim TopUpdates (part 18), put together in the order of their imports. -/
import Derived.Test.YtoabojbpeafdkaaGreatDoorKTopUpdates12
set_option linter.all false
set_option maxRecDepth 100000
set_option maxHeartbeats 1000000
/- Parity rows, by reckoning: the first profile, seven data shards. -/
set_option maxRecDepth 100000
namespace Go.Proofs.YtoabojbpeafdkaaGreatDoor
open Go Go.Gam Go.Iv
theorem par_1_7_1 : rng Tryz.prog 1 [7] [1] = true := by kernel_rfl
theorem par_1_7_2 : rng Tryz.prog 1 [7] [2] = true := by kernel_rfl
theorem par_1_7_3 : rng Tryz.prog 1 [7] [3] = true := by kernel_rfl
theorem par_1_7_4 : rng Tryz.prog 1 [7] [4] = true := by kernel_rfl
end Go.Proofs.YtoabojbpeafdkaaGreatDoor
