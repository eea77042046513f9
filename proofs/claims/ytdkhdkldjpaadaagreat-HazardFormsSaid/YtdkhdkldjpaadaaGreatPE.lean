/- The examples of chapter 6. -/
import Derived.Test.YtdkhdkldjpaadaaGreatPD
set_option maxHeartbeats 1000000
set_option maxRecDepth 4000
set_option linter.unusedSimpArgs false
set_option linter.unusedVariables false
namespace Go.Sx.Pn
open Go Go.Proofs

def two : Tk := ⟨⟨3, 232#64⟩, ⟨3, 0#64⟩⟩
def two6 : Tk := ⟨⟨3, 232#64⟩, ⟨3, 6#64⟩⟩
def twoS : Spec := fnS (fun _ : Unit => []) (fun _ => True) (fun _ => kP two)
theorem two_ok : FnOk Tryz.prog 59 twoS := by
  refine fnOk (Tb := tab) mixed tab_ok Tryz.func59 rfl rfl ?_
  rintro ⟨⟩ hpre
  refine ai (ai rfl (ai rfl rfl)) ?_
  refine ai (ai (fun _ => (by (repeat' (first | exact rfl | exact trivial | exact (fun _ => rfl) | exact (fun _ _ => rfl) | exact nof | refine ai ?_ ?_)))) ?_) trivial
  any_goals (repeat' (first | with_reducible rfl | exact trivial | refine ai ?_ ?_ | (show (_ : Int) = _; first | with_reducible rfl | exact wr1 (by omega) | (simp only [zz, reduceCtorEq] <;> first | done | rfl | omega) | omega | rfl) | exact rfl | exact (fun _ => rfl) | exact (fun _ _ => rfl) | exact nof))

section
variable {z : Int} (hz : z = 0)
include hz
theorem prim1 : FnOk Tryz.prog 97 (fnS (fun _ : Unit => PrimesS.args two) (fun _ => True) (fun _ => .tup [csP [⟨3, 3⟩, ⟨5, 5⟩, ⟨6, 6⟩], iP z])) :=
  fnS_at Primes_ok two trivial (by rw [hz, primesC_eq, show primesC two = ([⟨3, 3⟩, ⟨5, 5⟩, ⟨6, 6⟩], 0) by decide +kernel])
theorem prim2 : FnOk Tryz.prog 97 (fnS (fun _ : Unit => PrimesS.args two6) (fun _ => True) (fun _ => .tup [csP [⟨1, 1⟩, ⟨2, 2⟩], iP z])) :=
  fnS_at Primes_ok two6 trivial (by rw [hz, primesC_eq, show primesC two6 = ([⟨1, 1⟩, ⟨2, 2⟩], 0) by decide +kernel])
end
theorem same1 : FnOk Tryz.prog 14 (fnS (fun _ : Unit => sameS.args ([⟨3, 3⟩, ⟨5, 5⟩, ⟨6, 6⟩], [⟨3, 3⟩, ⟨5, 5⟩, ⟨6, 6⟩])) (fun _ => True) (fun _ => bP true)) :=
  fnS_at same_ok ([⟨3, 3⟩, ⟨5, 5⟩, ⟨6, 6⟩], [⟨3, 3⟩, ⟨5, 5⟩, ⟨6, 6⟩]) (by decide) (by simp)
theorem same2 : FnOk Tryz.prog 14 (fnS (fun _ : Unit => sameS.args ([⟨1, 1⟩, ⟨2, 2⟩], [⟨1, 1⟩, ⟨2, 2⟩])) (fun _ => True) (fun _ => bP true)) :=
  fnS_at same_ok ([⟨1, 1⟩, ⟨2, 2⟩], [⟨1, 1⟩, ⟨2, 2⟩]) (by decide) (by simp)
theorem eqn1 : FnOk Tryz.prog 21 (fnS (fun _ : Unit => eqNS.args ([0, 1, 2], [0, 1, 2])) (fun _ => True) (fun _ => bP true)) :=
  fnS_at eqN_ok ([0, 1, 2], [0, 1, 2]) (by decide) (by simp)

end Go.Sx.Pn

namespace Go.Sx.Pn
open Go Go.Proofs

def trueS : Spec := fnS (fun _ : Unit => []) (fun _ => True) (fun _ => bP true)
end Go.Sx.Pn

namespace Go.Sx.Pn
open Go Go.Proofs

def pairsLaw : Spec := fnS (fun x : Int × Cu × Cu => [iA x.1, cA x.2.1, cA x.2.2]) (fun _ => True) (fun _ => bP true)
def textsLaw : Spec := fnS (fun x : Int × Cu × List UInt8 => [iA x.1, cA x.2.1, strA x.2.2]) (fun _ => True) (fun _ => bP true)
def impliesLaw : Spec := fnS (fun x : Tk × Cu => [kA x.1, cA x.2]) (fun _ => True) (fun _ => bP true)
theorem primesL_len' (x : Tk) : (if chkK x = 0 then primesL x.on.n.toNat x else []).length ≤ 1000000 := by
  by_cases h : chkK x = 0
  · obtain ⟨n, hn, hx, _⟩ := chkT_zero (chkK_zero h).1
    have := primesL_len hn x
    rw [if_pos h, hx, Int.toNat_natCast]; omega
  · rw [if_neg h]; exact Nat.zero_le _
theorem essC_len (x : Tk) : (essC x).1.length ≤ 1000000 := by
  by_cases h : chkK x = 0
  · obtain ⟨n, hn, hx, _⟩ := chkT_zero (chkK_zero h).1
    have := primesL_len hn x
    have h2 := filt_len (essI n x (primesL n x)) (primesL n x).length
    simp only [essC, h, if_true, hx, Int.toNat_natCast]
    show ((List.range (primesL n x).length).filter (essI n x (primesL n x))).length ≤ 1000000
    omega
  · simp [essC, h]
theorem same_self (l : List Cu) (h : l.length ≤ 1000000) : FnOk Tryz.prog 14 (fnS (fun _ : Unit => sameS.args (l, l)) (fun _ => True) (fun _ => bP true)) :=
  fnS_at same_ok (l, l) h (by simp)
theorem eqn_self (l : List Nat) (h : l.length ≤ 1000000) : FnOk Tryz.prog 21 (fnS (fun _ : Unit => eqNS.args (l, l)) (fun _ => True) (fun _ => bP true)) :=
  fnS_at eqN_ok (l, l) h (by simp)
def primesLaw : Spec := fnS (fun x : Tk => [kA x]) (fun _ => True) (fun _ => bP true)
def pointsLaw : Spec := fnS (fun x : Int × Cu × Int => [iA x.1, cA x.2.1, iA x.2.2]) (fun _ => True) (fun _ => bP true)
end Go.Sx.Pn
