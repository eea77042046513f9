/- Contracts of the reference of layer 4: Not, variable, Cofactor, Var, Const, Value. -/
import Derived.Test.YtmncplgccielbaaDoorRef043
set_option maxHeartbeats 1000000
set_option maxRecDepth 4000
set_option linter.unusedSimpArgs false
set_option linter.unusedVariables false
set_option linter.unusedSectionVars false
namespace Go.Proofs.YtmncplgccielbaaDoor
open Go.RowKit Go.Shelf

end Go.Proofs.YtmncplgccielbaaDoor
