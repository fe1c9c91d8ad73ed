/- A profile whose params may be. -/
import Derived.Test.YtkoiolamnnmokaaDoorFProf
set_option linter.unusedVariables false
set_option linter.unusedSimpArgs false
namespace Go.Proofs.YtkoiolamnnmokaaDoor
open Go Go.Gam


namespace FxFProf1
end FxFProf1
open FxFProf1

theorem PMay_ok (B : Nat) (p k m : Int) (w : World) (hI : Inv FDx B w) : Ret Tryd.prog 30 [.agg #[.int .i64 p, .int .i64 k, .int .i64 m]] w fun v w' => v = .bool (mayP p k m) ∧ St FDx B w w' := by
  by_cases h : 1 ≤ p ∧ p ≤ 6
  · exact PMay_in B p k m w hI h
  · exact PMay_out B p k m w hI h

end Go.Proofs.YtkoiolamnnmokaaDoor
