/- The types of this program. -/
import Derived.Test.YtkoiolamnnmokaaDoorGDraw
import Derived.Test.YtkoiolamnnmokaaDoorGTxt
import Derived.Test.YtkoiolamnnmokaaDoorGProf
import Derived.Test.YtkoiolamnnmokaaDoorProg
set_option linter.unusedVariables false
set_option linter.unusedSimpArgs false
namespace Go.Proofs.YtkoiolamnnmokaaDoor
open Go Go.Gam


namespace FxFBase
end FxFBase
open FxFBase

/-- A type of which no block is made, and the type of whole numbers. -/
def FDx : FD := ⟨1, 3, by decide⟩

end Go.Proofs.YtkoiolamnnmokaaDoor
