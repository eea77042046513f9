/- Arguments of the rows of chapter 7: lists of cubes, tasks, bytes. -/
import Derived.Test.YtmjfhoidokajpaaGreatRow8
set_option maxHeartbeats 1000000
set_option maxRecDepth 4000
set_option linter.unusedSimpArgs false
set_option linter.unusedVariables false
set_option linter.unusedSectionVars false
namespace Go.Sx.Pn
open Go Go.Proofs Go.ChangeShapes Go.WideShapes Go.ChangeAt Go.RowKit

def argTypes7 : List TypeId := [3, 65, 23, 5, 67, 25, 27, 22]
theorem argTypes7_ok : Closed Tryz.prog argTypes7 := by
  intro t ht
  simp only [argTypes7, List.mem_cons, List.mem_nil_iff, or_false] at ht
  rcases ht with rfl | rfl | rfl | rfl | rfl | rfl | rfl | rfl <;> kernel_rfl
end Go.Sx.Pn
