/- The walk of package matrix: Apply. -/
import Derived.Test.YtaeljbdpjiciaaaFMatD
set_option linter.unusedVariables false
set_option linter.unusedSimpArgs false
namespace Go.Proofs.Ytaeljbdpjiciaaa
open Go Go.Gam


namespace FxFMatE
end FxFMatE
open FxFMatE

end Go.Proofs.Ytaeljbdpjiciaaa
