/- Contracts of chapter 8: Table, Between, Logic. -/
import Derived.Test.YtmjfhoidokajpaaGreatPI
set_option maxHeartbeats 1000000
set_option maxRecDepth 4000
set_option linter.unusedSimpArgs false
set_option linter.unusedVariables false
set_option linter.unusedSectionVars false
namespace Go.Sx.Pn
open Go Go.Proofs

def outC (n f t : Int) : Prop := f < 0 ∨ ((2 ^ n.toNat : Nat) : Int) ≤ f ∨ t < 0 ∨ ((2 ^ n.toNat : Nat) : Int) ≤ t
instance (n f t : Int) : Decidable (outC n f t) := by unfold outC; infer_instance
end Go.Sx.Pn

namespace Go.Sx.Pn
open Go Go.Proofs

section
variable {z : Int} (hz : z = 0)
include hz
end
end Go.Sx.Pn

namespace Go.Sx.Pn
open Go Go.Proofs

/- changes -/
/- a change of a single variable -/
end Go.Sx.Pn

namespace Go.Sx.Pn
open Go Go.Proofs

end Go.Sx.Pn

namespace Go.Sx.Pn
open Go Go.Proofs

section
variable {z : Int} (hz : z = 0) {n : Nat} {l : List Cu}
include hz
end

end Go.Sx.Pn
