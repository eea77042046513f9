/- The examples of chapter 6. -/
import Derived.Test.YtdkhdkldjpaadaaP31
set_option maxHeartbeats 1000000
set_option maxRecDepth 4000
set_option linter.unusedSimpArgs false
set_option linter.unusedVariables false
namespace Go.Sx.Pn
open Go Go.Proofs

def two : Tk := ⟨⟨3, 232#64⟩, ⟨3, 0#64⟩⟩
def two6 : Tk := ⟨⟨3, 232#64⟩, ⟨3, 6#64⟩⟩
def twoS : Spec := fnS (fun _ : Unit => []) (fun _ => True) (fun _ => kP two)
theorem two_ok : FnOk Try.prog 75 twoS := by
  refine fnOk (Tb := tab) mixed tab_ok Try.func75 rfl rfl ?_
  rintro ⟨⟩ hpre
  refine And.intro (And.intro rfl (And.intro rfl rfl)) ?_
  refine And.intro (And.intro (fun _ => (by (repeat' (first | exact rfl | exact trivial | exact (fun _ => rfl) | exact (fun _ _ => rfl) | exact (fun h => absurd h Bool.false_ne_true) | refine And.intro ?_ ?_)))) ?_) trivial
  any_goals (repeat' (first | with_reducible rfl | exact trivial | refine And.intro ?_ ?_ | (show (_ : Int) = _; first | with_reducible rfl | exact wr1 (by omega) | (simp only [zA, zB, zC, zD, zE, zF, zG, zH, zI, zJ, zK, zL, zM, zN, zO, zP, zQ, zR, zS, zT, zU, zV, zW, zX, zY, zZ, yA, yB, yC, yD, yE, yF, yG, yH, yI, yJ, yK, yL, yM, reduceCtorEq] <;> first | done | rfl | omega) | omega | rfl) | exact rfl | exact (fun _ => rfl) | exact (fun _ _ => rfl) | exact (fun h => absurd h Bool.false_ne_true)))

section
variable {z : Int} (hz : z = 0)
include hz
theorem parse1 : FnOk Try.prog 20 (fnS (fun _ : Unit => ParseS.args [49, 45, 48]) (fun _ => True) (fun _ => resP (3, ⟨5, 1⟩, z))) :=
  fnS_at Parse_ok [49, 45, 48] (by decide) (by rw [hz, show parseC [49, 45, 48] = (3, ⟨5, 1⟩, 0) by decide +kernel])
theorem parse2 : FnOk Try.prog 20 (fnS (fun _ : Unit => ParseS.args [45, 49, 48]) (fun _ => True) (fun _ => resP (3, ⟨6, 2⟩, z))) :=
  fnS_at Parse_ok [45, 49, 48] (by decide) (by rw [hz, show parseC [45, 49, 48] = (3, ⟨6, 2⟩, 0) by decide +kernel])
theorem parse3 : FnOk Try.prog 20 (fnS (fun _ : Unit => ParseS.args [45, 45, 49]) (fun _ => True) (fun _ => resP (3, ⟨4, 4⟩, z))) :=
  fnS_at Parse_ok [45, 45, 49] (by decide) (by rw [hz, show parseC [45, 45, 49] = (3, ⟨4, 4⟩, 0) by decide +kernel])
theorem meet1 : FnOk Try.prog 31 (fnS (fun _ : Unit => MeetS.args (3, ⟨5, 1⟩, ⟨6, 2⟩)) (fun _ => True) (fun _ => res3 (⟨7, 3⟩, true, z))) :=
  fnS_at Meet_ok (3, ⟨5, 1⟩, ⟨6, 2⟩) trivial (by show res3 (meetC 3 ⟨5, 1⟩ ⟨6, 2⟩) = _; rw [hz, show meetC 3 ⟨5, 1⟩ ⟨6, 2⟩ = (⟨7, 3⟩, true, 0) by decide +kernel])
theorem cons1 : FnOk Try.prog 33 (fnS (fun _ : Unit => ConsS.args (3, ⟨5, 1⟩, ⟨6, 2⟩)) (fun _ => True) (fun _ => res3 (⟨0, 0⟩, false, z))) :=
  fnS_at Cons_ok (3, ⟨5, 1⟩, ⟨6, 2⟩) trivial (by show res3 (consC 3 ⟨5, 1⟩ ⟨6, 2⟩) = _; rw [hz, show consC 3 ⟨5, 1⟩ ⟨6, 2⟩ = (⟨0, 0⟩, false, 0) by unfold consC popU; decide +kernel])
theorem cons2 : FnOk Try.prog 33 (fnS (fun _ : Unit => ConsS.args (3, ⟨5, 1⟩, ⟨4, 4⟩)) (fun _ => True) (fun _ => res3 (⟨1, 1⟩, true, z))) :=
  fnS_at Cons_ok (3, ⟨5, 1⟩, ⟨4, 4⟩) trivial (by show res3 (consC 3 ⟨5, 1⟩ ⟨4, 4⟩) = _; rw [hz, show consC 3 ⟨5, 1⟩ ⟨4, 4⟩ = (⟨1, 1⟩, true, 0) by unfold consC popU; decide +kernel])
theorem text1 : FnOk Try.prog 18 (fnS (fun _ : Unit => TextS.args (3, ⟨7, 3⟩)) (fun _ => True) (fun _ => .tup [strP [49, 49, 48], iP z])) :=
  fnS_at Text_ok (3, ⟨7, 3⟩) trivial (by show PV.tup [strP (txtC 3 ⟨7, 3⟩).1, iP (txtC 3 ⟨7, 3⟩).2] = _; rw [hz, show txtC 3 ⟨7, 3⟩ = ([49, 49, 48], 0) by decide +kernel])
theorem text2 : FnOk Try.prog 18 (fnS (fun _ : Unit => TextS.args (3, ⟨1, 1⟩)) (fun _ => True) (fun _ => .tup [strP [49, 45, 45], iP z])) :=
  fnS_at Text_ok (3, ⟨1, 1⟩) trivial (by show PV.tup [strP (txtC 3 ⟨1, 1⟩).1, iP (txtC 3 ⟨1, 1⟩).2] = _; rw [hz, show txtC 3 ⟨1, 1⟩ = ([49, 45, 45], 0) by decide +kernel])
theorem prim1 : FnOk Try.prog 23 (fnS (fun _ : Unit => PrimesS.args two) (fun _ => True) (fun _ => .tup [csP [⟨3, 3⟩, ⟨5, 5⟩, ⟨6, 6⟩], iP z])) :=
  fnS_at Primes_ok two trivial (by rw [hz, primesC_eq, show primesC two = ([⟨3, 3⟩, ⟨5, 5⟩, ⟨6, 6⟩], 0) by decide +kernel])
theorem prim2 : FnOk Try.prog 23 (fnS (fun _ : Unit => PrimesS.args two6) (fun _ => True) (fun _ => .tup [csP [⟨1, 1⟩, ⟨2, 2⟩], iP z])) :=
  fnS_at Primes_ok two6 trivial (by rw [hz, primesC_eq, show primesC two6 = ([⟨1, 1⟩, ⟨2, 2⟩], 0) by decide +kernel])
theorem ess1 : FnOk Try.prog 25 (fnS (fun _ : Unit => EssS.args two) (fun _ => True) (fun _ => .tup [nsP [0, 1, 2], iP z])) :=
  fnS_at Ess_ok two trivial (by show PV.tup [nsP (essC two).1, iP (essC two).2] = _; rw [hz, show essC two = ([0, 1, 2], 0) by decide +kernel])
end
theorem same1 : FnOk Try.prog 27 (fnS (fun _ : Unit => sameS.args ([⟨3, 3⟩, ⟨5, 5⟩, ⟨6, 6⟩], [⟨3, 3⟩, ⟨5, 5⟩, ⟨6, 6⟩])) (fun _ => True) (fun _ => bP true)) :=
  fnS_at same_ok ([⟨3, 3⟩, ⟨5, 5⟩, ⟨6, 6⟩], [⟨3, 3⟩, ⟨5, 5⟩, ⟨6, 6⟩]) (by decide) (by simp)
theorem same2 : FnOk Try.prog 27 (fnS (fun _ : Unit => sameS.args ([⟨1, 1⟩, ⟨2, 2⟩], [⟨1, 1⟩, ⟨2, 2⟩])) (fun _ => True) (fun _ => bP true)) :=
  fnS_at same_ok ([⟨1, 1⟩, ⟨2, 2⟩], [⟨1, 1⟩, ⟨2, 2⟩]) (by decide) (by simp)
theorem eqn1 : FnOk Try.prog 28 (fnS (fun _ : Unit => eqNS.args ([0, 1, 2], [0, 1, 2])) (fun _ => True) (fun _ => bP true)) :=
  fnS_at eqN_ok ([0, 1, 2], [0, 1, 2]) (by decide) (by simp)

end Go.Sx.Pn
