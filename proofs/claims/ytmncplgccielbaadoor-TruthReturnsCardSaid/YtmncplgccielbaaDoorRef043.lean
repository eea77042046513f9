/- Contracts of the reference of layer 4: Opposite, Variable, Fixed, Not, Var, Const, Cofactor. -/
import Derived.Test.YtmncplgccielbaaDoorRef042
set_option maxHeartbeats 1000000
set_option maxRecDepth 4000
set_option linter.unusedSimpArgs false
set_option linter.unusedVariables false
set_option linter.unusedSectionVars false
namespace Go.Proofs.YtmncplgccielbaaDoor
open Go.RowKit Go.Shelf

theorem mkB_pts (q : Nat → Bool) (m : Nat) : M.mkB (fun k => decide (k ∈ M.pts q m)) m = M.mkB q m :=
  M.mkB_congr fun j hj => by
    cases hq : q j
    · exact decide_eq_false fun h => by rw [(M.mem_pts.1 h).2] at hq; cases hq
    · exact decide_eq_true (M.mem_pts.2 ⟨hj, hq⟩)

end Go.Proofs.YtmncplgccielbaaDoor
