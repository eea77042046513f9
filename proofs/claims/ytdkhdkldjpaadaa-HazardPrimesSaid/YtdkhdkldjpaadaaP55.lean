/- Laws of chapter 8, walked: HazardTables, HazardFinds. -/
import Derived.Test.YtdkhdkldjpaadaaP54
set_option maxHeartbeats 1000000
set_option maxRecDepth 4000
set_option linter.unusedSimpArgs false
set_option linter.unusedVariables false
namespace Go.Sx.Pn
open Go Go.Proofs

end Go.Sx.Pn
