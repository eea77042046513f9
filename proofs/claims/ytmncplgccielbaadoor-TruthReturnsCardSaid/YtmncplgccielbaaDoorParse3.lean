/- Contracts: Parse of the reference of layer 4. -/
import Derived.Test.YtmncplgccielbaaDoorParse1
set_option maxHeartbeats 1000000
set_option maxRecDepth 4000
set_option linter.unusedSimpArgs false
set_option linter.unusedVariables false
set_option linter.unusedSectionVars false
namespace Go.Proofs.YtmncplgccielbaaDoor
open Go.RowKit Go.Shelf

theorem ones_succ_t {l : List UInt8} {k : Nat} (h : T.ones l k = true) : M.pts (T.ones l) (k + 1) = M.pts (T.ones l) k ++ [k] := M.pts_succ_t h

end Go.Proofs.YtmncplgccielbaaDoor
