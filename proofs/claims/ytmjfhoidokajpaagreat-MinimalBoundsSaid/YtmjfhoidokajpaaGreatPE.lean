/- The examples of chapter 6. -/
import Derived.Test.YtmjfhoidokajpaaGreatPD
set_option maxHeartbeats 1000000
set_option maxRecDepth 4000
set_option linter.unusedSimpArgs false
set_option linter.unusedVariables false
set_option linter.unusedSectionVars false
namespace Go.Sx.Pn
open Go Go.Proofs

def two : Tk := ⟨⟨3, 232#64⟩, ⟨3, 0#64⟩⟩
def twoS : Spec := fnS (fun _ : Unit => []) (fun _ => True) (fun _ => kP two)
theorem two_ok : FnOk Tryz.prog 32 twoS := by
  refine fnOk (Tb := tab) mixed tab_ok Tryz.func32 rfl rfl ?_
  rintro ⟨⟩ hpre
  refine ai (ai rfl (ai rfl rfl)) ?_
  refine ai (ai (fun _ => (by (repeat' (first | exact rfl | exact trivial | exact (fun _ => rfl) | exact (fun _ _ => rfl) | exact nof | refine ai ?_ ?_)))) ?_) trivial
  any_goals (repeat' (first | with_reducible rfl | exact trivial | refine ai ?_ ?_ | (show (_ : Int) = _; first | with_reducible rfl | exact wr1 (by omega) | (simp only [zz, reduceCtorEq] <;> first | done | rfl | omega) | omega | rfl) | exact rfl | exact (fun _ => rfl) | exact (fun _ _ => rfl) | exact nof))

section
variable {z : Int} (hz : z = 0)
include hz
end
theorem same1 : FnOk Tryz.prog 18 (fnS (fun _ : Unit => sameS.args ([⟨3, 3⟩, ⟨5, 5⟩, ⟨6, 6⟩], [⟨3, 3⟩, ⟨5, 5⟩, ⟨6, 6⟩])) (fun _ => True) (fun _ => bP true)) :=
  fnS_at same_ok ([⟨3, 3⟩, ⟨5, 5⟩, ⟨6, 6⟩], [⟨3, 3⟩, ⟨5, 5⟩, ⟨6, 6⟩]) (by decide) (by simp)
end Go.Sx.Pn

namespace Go.Sx.Pn
open Go Go.Proofs

def trueS : Spec := fnS (fun _ : Unit => []) (fun _ => True) (fun _ => bP true)
end Go.Sx.Pn

namespace Go.Sx.Pn
open Go Go.Proofs

theorem same_self (l : List Cu) (h : l.length ≤ 1000000) : FnOk Tryz.prog 18 (fnS (fun _ : Unit => sameS.args (l, l)) (fun _ => True) (fun _ => bP true)) :=
  fnS_at same_ok (l, l) h (by simp)
theorem eqn_self (l : List Nat) (h : l.length ≤ 1000000) : FnOk Tryz.prog 15 (fnS (fun _ : Unit => eqNS.args (l, l)) (fun _ => True) (fun _ => bP true)) :=
  fnS_at eqN_ok (l, l) h (by simp)
end Go.Sx.Pn
