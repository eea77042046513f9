/- The reference's Form of chapter 8, and HazardForms. -/
import Derived.Test.YtmjfhoidokajpaaGreatZ1
import Derived.Test.YtmjfhoidokajpaaGreatPL
set_option maxHeartbeats 1000000
set_option maxRecDepth 4000
set_option linter.unusedSimpArgs false
set_option linter.unusedVariables false
set_option linter.unusedSectionVars false
namespace Go.Sx.Pn
open Go Go.Proofs

def rbetterL (l old : List Cu) (w b : Nat) : Prop := ¬ (old.length < l.length ∨ l.length = old.length ∧ litL old < litL l) ∧ (l.length < old.length ∨ litL l < litL old ∨ firstB w b = true)
instance (l old : List Cu) (w b : Nat) : Decidable (rbetterL l old w b) := by unfold rbetterL; infer_instance
theorem pow_i {k : Nat} (h : k ≤ 16) : IntKind.i64.wrap (1 * 2 ^ min (k : Int).toNat IntKind.i64.bits) = ((2 ^ k : Nat) : Int) := by
  have h1 := pow16 h
  have : min (k : Int).toNat IntKind.i64.bits = k := by show min k 64 = k; omega
  rw [this, Int.one_mul, show ((2 : Int) ^ k) = ((2 ^ k : Nat) : Int) by rw [Int.natCast_pow]; rfl]
  generalize 2 ^ k = p at h1
  exact wrap_in (by omega) (by omega)
end Go.Sx.Pn
