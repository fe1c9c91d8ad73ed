/- The walks of the document answer for polynomials: each function returns what the plain function on numbers tells. -/
import Derived.Test.YtcnlooajjnghaaaFPoly
set_option linter.unusedVariables false
set_option linter.unusedSimpArgs false
namespace Go.Proofs.Ytcnlooajjnghaaa
open Go Go.Gam


namespace FxFRef01
end FxFRef01
open FxFRef01

end Go.Proofs.Ytcnlooajjnghaaa
