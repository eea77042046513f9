/- Contracts of the reference of layer 4: Written, Text. -/
import Derived.Test.YtmncplgccielbaaDoorText1
import Derived.Test.YtmncplgccielbaaDoorRef044
set_option maxHeartbeats 1000000
set_option maxRecDepth 4000
set_option linter.unusedSimpArgs false
set_option linter.unusedVariables false
set_option linter.unusedSectionVars false
namespace Go.Proofs.YtmncplgccielbaaDoor
open Go.RowKit Go.Shelf

theorem bytes_snoc (l : List UInt8) (c : UInt8) : (⟨l.toArray⟩ : ByteArray) ++ ⟨#[c]⟩ = ⟨(l ++ [c]).toArray⟩ := by
  apply ByteArray.ext
  simp

end Go.Proofs.YtmncplgccielbaaDoor
