/- The examples of chapter 6. -/
import Derived.Test.YtdkhdkldjpaadaaPD
set_option maxHeartbeats 1000000
set_option maxRecDepth 4000
set_option linter.unusedSimpArgs false
set_option linter.unusedVariables false
namespace Go.Sx.Pn
open Go Go.Proofs

def two : Tk := ⟨⟨3, 232#64⟩, ⟨3, 0#64⟩⟩
section
variable {z : Int} (hz : z = 0)
include hz
end
end Go.Sx.Pn

namespace Go.Sx.Pn
open Go Go.Proofs

def trueS : Spec := fnS (fun _ : Unit => []) (fun _ => True) (fun _ => bP true)
end Go.Sx.Pn

namespace Go.Sx.Pn
open Go Go.Proofs

theorem same_self (l : List Cu) (h : l.length ≤ 1000000) : FnOk Try.prog 27 (fnS (fun _ : Unit => sameS.args (l, l)) (fun _ => True) (fun _ => bP true)) :=
  fnS_at same_ok (l, l) h (by simp)
end Go.Sx.Pn
