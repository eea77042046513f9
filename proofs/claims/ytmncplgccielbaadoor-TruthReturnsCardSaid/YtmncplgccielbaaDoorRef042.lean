/- Contracts of the reference of layer 4: Made. -/
import Derived.Test.YtmncplgccielbaaDoorRef041
import Derived.StillTailTactics
set_option maxHeartbeats 1000000
set_option maxRecDepth 4000
set_option linter.unusedSimpArgs false
set_option linter.unusedVariables false
set_option linter.unusedSectionVars false
namespace Go.Proofs.YtmncplgccielbaaDoor
open Go.RowKit Go.Shelf

end Go.Proofs.YtmncplgccielbaaDoor
