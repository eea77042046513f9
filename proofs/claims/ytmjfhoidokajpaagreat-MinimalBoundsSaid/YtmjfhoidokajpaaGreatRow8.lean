/- Arguments of the rows of chapter 8: lists of cubes, changes, arrays of bytes. -/
import Derived.Test.YtmjfhoidokajpaaGreatRow6
import Derived.Test.YtmjfhoidokajpaaGreatPI
set_option maxHeartbeats 1000000
set_option maxRecDepth 4000
set_option linter.unusedSimpArgs false
set_option linter.unusedVariables false
set_option linter.unusedSectionVars false
namespace Go.Sx.Pn
open Go Go.Proofs Go.ChangeShapes Go.WideShapes Go.ChangeAt Go.RowKit

theorem srep_ple {E : Env} {v : Value} {d d' : PV} (h : SRep E v (.p false d)) (e : ple d d') : SRep E v (.p false d') := by
  cases h with | p _ _ _ hp => exact .p _ _ _ (ple_rep e hp)
section
variable {w : World} {r : Reach} {b : Nat} {v : Value} {n : Nat} {l : List PV}
theorem arg_cubes (hv : Value.okWide Tryz.prog w r b 22 v) (hs : Shape Tryz.prog n 22 l) (hr : Rel (memOf w) v.cells.toList l) : ∃ cs : List Cu, SRep (E0 w) v (csA cs) := by
  obtain ⟨m, f, n', hm, rfl, hf⟩ := shape_slice Tryz.underlying22 hs
  have h1 : ∀ j, ∃ c : Cu, j < m → f j = c.cells := fun j => by
    by_cases hj : j < m
    · obtain ⟨c, hc⟩ := shape_cube (hf j hj); exact ⟨c, fun _ => hc⟩
    · exact ⟨⟨0, 0⟩, fun h => absurd h hj⟩
  obtain ⟨g, hg⟩ := Classical.axiomOfChoice h1
  refine ⟨(List.range m).map g, srep_ple (sr_one (ok_slice Tryz.underlying22 hv) hr) ?_⟩
  show m = _ ∧ ∀ k, k < m → f k = _
  refine ⟨by simp, fun k hk => ?_⟩
  rw [hg k hk]
  simp [List.getD_eq_getElem?_getD, hk]
end

end Go.Sx.Pn
