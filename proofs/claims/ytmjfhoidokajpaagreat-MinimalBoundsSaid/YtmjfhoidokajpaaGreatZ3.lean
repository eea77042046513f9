/- Both forms of chapter 8 are the same; HazardForms, walked. -/
import Derived.Test.YtmjfhoidokajpaaGreatZ2
set_option maxHeartbeats 1000000
set_option maxRecDepth 4000
set_option linter.unusedSimpArgs false
set_option linter.unusedVariables false
set_option linter.unusedSectionVars false
namespace Go.Sx.Pn
open Go Go.Proofs

end Go.Sx.Pn
