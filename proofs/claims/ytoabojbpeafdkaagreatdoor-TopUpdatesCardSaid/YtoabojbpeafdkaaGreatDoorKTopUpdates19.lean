/- Texts of the claim TopUpdates (part 19), put together in the order of their imports. -/
import Derived.Test.YtoabojbpeafdkaaGreatDoorKTopUpdates12
set_option linter.all false
set_option maxRecDepth 100000
set_option maxHeartbeats 1000000
/- Parity rows, by reckoning: the first profile, eight data shards. -/
set_option maxRecDepth 100000
namespace Go.Proofs.YtoabojbpeafdkaaGreatDoor
open Go Go.Gam Go.Iv
theorem par_1_8_1 : rng Tryz.prog 1 [8] [1] = true := by kernel_rfl
theorem par_1_8_2 : rng Tryz.prog 1 [8] [2] = true := by kernel_rfl
theorem par_1_8_3 : rng Tryz.prog 1 [8] [3] = true := by kernel_rfl
theorem par_1_8_4 : rng Tryz.prog 1 [8] [4] = true := by kernel_rfl
end Go.Proofs.YtoabojbpeafdkaaGreatDoor
