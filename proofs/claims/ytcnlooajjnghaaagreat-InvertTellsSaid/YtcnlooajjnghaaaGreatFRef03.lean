/- The walks of gambrelref03: what the document asks of regions. -/
import Derived.Test.YtcnlooajjnghaaaGreatFRef02
import Derived.Test.YtcnlooajjnghaaaGreatGReg
set_option linter.unusedVariables false
set_option linter.unusedSimpArgs false
namespace Go.Proofs.YtcnlooajjnghaaaGreat
open Go Go.Gam


namespace FxFRef03
end FxFRef03
open FxFRef03

end Go.Proofs.YtcnlooajjnghaaaGreat
