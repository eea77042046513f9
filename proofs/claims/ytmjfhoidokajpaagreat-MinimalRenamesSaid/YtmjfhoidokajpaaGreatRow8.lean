/- Arguments of the rows of chapter 8: lists of cubes, changes, arrays of bytes. -/
import Derived.Test.YtmjfhoidokajpaaGreatRow6
import Derived.Test.YtmjfhoidokajpaaGreatPI
set_option maxHeartbeats 1000000
set_option maxRecDepth 4000
set_option linter.unusedSimpArgs false
set_option linter.unusedVariables false
set_option linter.unusedSectionVars false
namespace Go.Sx.Pn
open Go Go.Proofs Go.ChangeShapes Go.WideShapes Go.ChangeAt Go.RowKit

theorem wf_u8 {m : Int} (h : (Lit.int .u8 m).wf = true) : ∃ x : UInt8, m = (x.toNat : Int) := by
  simp [Lit.wf, IntKind.min, IntKind.max, IntKind.signed, IntKind.bits] at h
  refine ⟨UInt8.ofNat m.toNat, ?_⟩
  rw [UInt8.toNat_ofNat']
  omega
section
variable {w : World} {r : Reach} {b : Nat} {v : Value} {n : Nat} {l : List PV}
end

end Go.Sx.Pn
